/- Part 2 of the proof: lemmas. -/
import Derived.Test.YtpomanleabaafaaGreatN1
import Derived.Test.YtpomanleabaafaaGreatRows
import Derived.WalkKit
import Derived.ProofKit
import Derived.OpenShut
import Derived.JoinedCond
import Derived.Carry
import Derived.Test.YtpomanleabaafaaGreatProg
import Derived.KernelRfl
set_option maxRecDepth 100000
set_option maxHeartbeats 4000000
set_option linter.unusedVariables false
set_option linter.unusedSimpArgs false
set_option linter.unusedSectionVars false
set_option linter.defProp false
namespace Go.Proofs.YtpomanleabaafaaGreat.Avm
open Go.Proofs
section
section
variable {P : Program} {TE : TyE} {EQ : TypeId → Bool} {RK : Option (List Nat × (Nat → Bool))}
def CallsA (P : Program) (s : AS) (o : Oper) (K : Nat → Bool) (out : Out) : Prop :=
  ∃ x args ts f caps, o.op = .call ⟨.value x, args, ts⟩ ∧ ev s.T x = .fn f caps ∧ stbs ((evs s.T args.toList ++ caps).map (fz K s.M)) = true ∧ Ev P f ((evs s.T args.toList ++ caps).map (fz K s.M)) out
def isStore : Op → Bool
  | .store _ _ _ => true
  | .load _ _ => true
  | .call ⟨.builtin .append, _, _⟩ => true
  | _ => false
def rkOk (RK : Option (List Nat × (Nat → Bool))) (dst : Option Tmp) (op : Op) (T : Tmps) : Bool :=
  match RK with
  | none => true
  | some (ws, K) =>
    match clsW ws dst op with
    | .r => op.operands.toList.all fun x => match (ev T x).atR op with | some k => K k | none => true
    | .w => isStore op && (match dst with | some d => !K d | none => true) && op.operands.toList.all fun x => match (ev T x).at with | some k => !K k | none => true
    | _ => true
def StD (P : Program) (TE : TyE) (EQ : TypeId → Bool) (RK : Option (List Nat × (Nat → Bool))) (s : AS) (o : Oper) (v : AVal) (M' : Mem) : Prop :=
  (∃ ups, opA TE EQ s o = some (v, ups) ∧ M' = ap s.M ups ∧ (clsO (RK.map (·.1)) o.dst o.op = .r → ups = []) ∧ rkOk RK o.dst o.op s.T = true) ∨
  (∃ K, CallsA P s o K (.ret v) ∧ M' = s.M ∧ (v.flt = true ∨ K = fun _ => false) ∧ (RK.isSome = true → K = fun _ => false))
def wantA (ops : Array Oper) (o : Oper) (T : Tmps) : Option Bool :=
  match o.guard with
  | none => some true
  | some (j, b) =>
    match (ops[j]?).bind (·.dst) with
    | none => some false
    | some t => match T t with
      | .bool c => some (c == b)
      | .tup _ => some false
      | _ => none
def YA (P : Program) (TE : TyE) (EQ : TypeId → Bool) (RK : Option (List Nat × (Nat → Bool))) (ops : Array Oper) (s : AS) (o : Oper) (v : AVal) (M' : Mem) : Prop :=
  (wantA ops o s.T = some true ∧ StD P TE EQ RK s o v M') ∨ (wantA ops o s.T = some false ∧ v = .tup [] ∧ M' = s.M)
theorem wantA_ok {ops : Array Oper} {o : Oper} {n : Nat} {B : Nat → Prop} {G : Gh} {s : AS} {a : Act} {w : World} (h : Rel n B G s a w) {b : Bool} (hw : wantA ops o s.T = some b) :
    Region.wanted o (yielded ops a.tmps) = b := by
  unfold wantA at hw
  unfold Region.wanted
  cases hg : o.guard with
  | none => simp [hg] at hw; simpa using hw
  | some jb =>
    obtain ⟨j, want⟩ := jb
    simp only [hg] at hw ⊢
    unfold yielded
    cases ht : (ops[j]?).bind (·.dst) with
    | none => simp only [ht, Option.some.injEq] at hw; subst hw; simp
    | some t =>
      simp only [ht] at hw
      have hv := h.temps t
      cases hT : s.T t <;> simp only [hT, reduceCtorEq, Option.some.injEq] at hw <;> rw [hT] at hv
      case bool c =>
        subst hw
        rw [Array.getD_eq_getD_getElem?] at hv
        cases hx : a.tmps[t]? with
        | none => rw [hx] at hv; simp only [Option.getD_none, undef] at hv; cases hv
        | some u => rw [hx] at hv; simp only [Option.getD_some] at hv; cases hv; simp [hx]
      case tup cs =>
        subst hw
        rw [Array.getD_eq_getD_getElem?] at hv
        cases hx : a.tmps[t]? with
        | none => simp [hx]
        | some u => rw [hx] at hv; simp only [Option.getD_some] at hv; cases hv; simp [hx]
def Looks (ops : Array Oper) (o : Oper) (T T' : Tmps) : Prop := ∀ t ∈ o.looksAt ops, T t = T' t
theorem Looks.ev {ops : Array Oper} {o : Oper} {T T' : Tmps} (h : Looks ops o T T') {x : Operand} (hx : x ∈ o.op.operands) : Avm.ev T x = Avm.ev T' x := by
  cases x with
  | tmp t => exact h t (List.mem_append_left _ (List.mem_filterMap.2 ⟨.tmp t, by simpa using hx, rfl⟩))
  | _ => rfl
theorem Looks.want {ops : Array Oper} {o : Oper} {T T' : Tmps} (h : Looks ops o T T') : wantA ops o T = wantA ops o T' := by
  unfold wantA
  cases hg : o.guard with
  | none => rfl
  | some jb =>
    obtain ⟨j, want⟩ := jb
    simp only
    cases ht : (ops[j]?).bind (·.dst) with
    | none => rfl
    | some t =>
      have : T t = T' t := h t (List.mem_append_right _ (by simp [hg, ht]))
      simp only [this]
theorem Looks.symm {ops : Array Oper} {o : Oper} {T T' : Tmps} (h : Looks ops o T T') : Looks ops o T' T := fun t ht => (h t ht).symm
theorem Looks.put {ops : Array Oper} {o : Oper} {T : Tmps} {M M' : Mem} {d : Option Tmp} {v : AVal} (h : ∀ e, d = some e → e ∉ o.looksAt ops) : Looks ops o T ((AS.put ⟨T, M⟩ d v).T) := by
  intro t ht
  cases d with
  | none => rfl
  | some e => exact (upd_ne _ _ fun he => h e rfl (by rw [← he]; exact ht)).symm
theorem Looks.calls {ops : Array Oper} {o : Oper} {T T' : Tmps} {M : Mem} (h : Looks ops o T T') {K : Nat → Bool} {out : Out} (hc : CallsA P ⟨T, M⟩ o K out) : CallsA P ⟨T', M⟩ o K out := by
  obtain ⟨x, args, ts, f, caps, ho, hf, hs, he⟩ := hc
  have ha : evs T args.toList = evs T' args.toList := evs_congr fun y hy => h.ev (by rw [ho]; simp [Op.operands, Call.operands]; exact .inr (by simpa using hy))
  have hx : Avm.ev T x = Avm.ev T' x := h.ev (by rw [ho]; simp [Op.operands, Call.operands])
  simp only [ha] at hs he
  exact ⟨x, args, ts, f, caps, ho, hx ▸ hf, hs, he⟩
theorem rkOk_congr {dst : Option Tmp} {op : Op} {T T' : Tmps} (h : ∀ x ∈ op.operands, Avm.ev T x = Avm.ev T' x) : rkOk RK dst op T = rkOk RK dst op T' := by
  have all_congr : ∀ (l : List Operand) (f g : Operand → Bool), (∀ x ∈ l, f x = g x) → l.all f = l.all g := by
    intro l f g hl
    induction l with
    | nil => rfl
    | cons y l ih => simp only [List.all_cons, hl y (by simp), ih fun x hx => hl x (by simp [hx])]
  unfold rkOk
  cases RK with
  | none => rfl
  | some wK =>
    obtain ⟨ws, K⟩ := wK
    simp only
    cases clsW ws dst op <;> simp only
    · exact all_congr _ _ _ fun x hx => by rw [h x (by simpa using hx)]
    · rw [all_congr _ _ _ fun x hx => by rw [h x (by simpa using hx)]]
theorem YA.congr {ops : Array Oper} {o : Oper} {T T' : Tmps} {M M' : Mem} {v : AVal} (h : Looks ops o T T') (hy : YA P TE EQ RK ops ⟨T, M⟩ o v M') : YA P TE EQ RK ops ⟨T', M⟩ o v M' := by
  rcases hy with ⟨hw, hs⟩ | ⟨hw, h1, h2⟩
  · refine .inl ⟨by rw [← h.want]; exact hw, ?_⟩
    rcases hs with ⟨ups, h1, h2, h3, h4⟩ | ⟨K, h1, h2, h3⟩
    · exact .inl ⟨ups, by rw [← opA_congr fun x hx => h.ev hx]; exact h1, h2, h3, by rw [← rkOk_congr fun x hx => h.ev hx]; exact h4⟩
    · exact .inr ⟨K, h.calls h1, h2, h3⟩
  · exact .inr ⟨by rw [← h.want]; exact hw, h1, h2⟩
def AVal.lv (M : Mem) (x : AVal) : Prop := ∀ k, x.at = some k → M k ≠ none
theorem VR.lv {G : Gh} {B : Nat → Prop} {M : Mem} {w : World} {x : AVal} {v : Value} (h : VR (Dm M) G B w x v) : x.lv M := by
  intro k hk
  cases h <;> simp only [AVal.at, reduceCtorEq, Option.some.injEq] at hk <;> subst hk <;> (intro hn; rename_i hd; first | exact Dm_none hn ‹_› | skip)
theorem AVal.lv.agr {M : Mem} {x : AVal} (h : x.lv M) {d : Nat} (hd : M d = none) (b : Option ABlk) : Agr M (upd M d b) x := fun k hk =>
  upd_ne _ _ fun he => h k hk (he ▸ hd)
theorem fzc_upd {M : Mem} {d : Nat} (hd : M d = none) (b : Option ABlk) (K : Nat → Bool) {x : AVal} (h : x.lv M) : fzc K (upd M d b) x = fzc K M x := by
  cases x <;> try rfl
  case os k e => simp only [fzc, h.agr hd b k rfl]
def AVal.lvs (M : Mem) (x : AVal) : Prop :=
  x.lv M ∧ (∀ cs, x = .agg cs → ∀ c ∈ cs, c.lv M) ∧ (∀ f cs, x = .fn f cs → ∀ c ∈ cs, c.lv M)
def MLv (M : Mem) : Prop := ∀ k cs, M k = some (.cells cs) → ∀ c ∈ cs, c.lv M
theorem cells_upd {M : Mem} (hM : MLv M) {d : Nat} (hd : M d = none) (b : Option ABlk) (K : Nat → Bool) {k : Nat} {cs : List AVal} (hk : M k = some (.cells cs)) :
    cs.map (fzc K (upd M d b)) = cs.map (fzc K M) := List.map_congr_left fun c hc => fzc_upd hd b K (hM k cs hk c hc)
theorem ptr_upd {M : Mem} (hM : MLv M) {d : Nat} (hd : M d = none) (b : Option ABlk) (K : Nat → Bool) {k off : Nat} (h : (AVal.ptr k off).lv M) :
    (if K k = true then (match (upd M d b) k with | some (.cells cs) => AVal.sptr ((cs.map (fzc K (upd M d b))).drop off) | _ => .undef) else .undef) =
    (if K k = true then (match M k with | some (.cells cs) => AVal.sptr ((cs.map (fzc K M)).drop off) | _ => .undef) else .undef) := by
  rw [h.agr hd b k rfl]
  split
  · cases hk : M k with
    | none => rfl
    | some x => cases x <;> try rfl
                simp only [cells_upd hM hd b K hk]
  · rfl
theorem fz_upd {M : Mem} (hM : MLv M) {d : Nat} (hd : M d = none) (b : Option ABlk) (K : Nat → Bool) {x : AVal} (h : x.lvs M) : fz K (upd M d b) x = fz K M x := by
  cases x <;> simp only [fz] <;> try exact fzc_upd hd b K h.1
  case ptr k off => exact ptr_upd hM hd b K h.1
  case agg cs => rw [List.map_congr_left fun c hc => fzc_upd hd b K (h.2.1 cs rfl c hc)]
  case fn f cs =>
    congr 1
    refine List.map_congr_left fun c hc => ?_
    have hl := h.2.2 f cs rfl c hc
    cases c <;> simp only <;> first | exact ptr_upd hM hd b K hl | exact fzc_upd hd b K hl
theorem VR.lvs {G : Gh} {B : Nat → Prop} {M : Mem} {w : World} {x : AVal} {v : Value} (h : VR (Dm M) G B w x v) : x.lvs M := by
  refine ⟨h.lv, fun cs hx c hc => ?_, fun f cs hx c hc => ?_⟩ <;> subst hx
  · cases h with
    | agg _ vs hl h =>
      obtain ⟨i, hi, rfl⟩ := List.getElem_of_mem hc
      exact (h i cs[i] (vs[i]'(by rw [hl]; exact hi)) (by simp [hi]) (by simp [hl, hi])).lv
  · cases h with
    | fn _ _ vs hl h =>
      obtain ⟨i, hi, rfl⟩ := List.getElem_of_mem hc
      exact (h i cs[i] (vs[i]'(by rw [hl]; exact hi)) (by simp [hi]) (by simp [hl, hi])).lv
theorem VR.caps_lvs {G : Gh} {B : Nat → Prop} {M : Mem} {w : World} {f : FuncId} {caps : List AVal} {v : Value} (h : VR (Dm M) G B w (.fn f caps) v) : ∀ y ∈ caps, y.lvs M := by
  intro y hy
  cases h with
  | fn _ _ vs hl h =>
    obtain ⟨i, hi, rfl⟩ := List.getElem_of_mem hy
    exact (h i caps[i] (vs[i]'(by rw [hl]; exact hi)) (by simp [hi]) (by simp [hl, hi])).lvs
theorem Rel.mlv {n : Nat} {B : Nat → Prop} {G : Gh} {s : AS} {a : Act} {w : World} (h : Rel n B G s a w) : MLv s.M := by
  intro k cs hk c hc
  obtain ⟨i, hi, rfl⟩ := List.getElem_of_mem hc
  obtain ⟨_, _, _, _, _, _, h5⟩ := h.mem k _ hk
  obtain ⟨u, _, hr⟩ := h5 i cs[i] (by simp [hi])
  generalize cs[i] = x at hr
  intro j hj
  cases x <;> simp only [AVal.at, reduceCtorEq] at hj <;> exact VR.lv hr j hj
def Inh (n : Nat) (s : AS) : Prop := ∃ B G a w, Rel n B G s a w
theorem Inh.lvs {n : Nat} {s : AS} (h : Inh n s) (x : Operand) : (ev s.T x).lvs s.M := let ⟨_, _, _, _, h⟩ := h; (h.ev x).lvs
theorem Inh.mlv {n : Nat} {s : AS} (h : Inh n s) : MLv s.M := let ⟨_, _, _, _, h⟩ := h; h.mlv
theorem YA.frame {ops : Array Oper} {n : Nat} {T : Tmps} {M : Mem} {o : Oper} {v : AVal} {M' : Mem} (hi : Inh n ⟨T, M⟩) (hc : clsO (RK.map (·.1)) o.dst o.op = .r) {d : Nat} (hd : M d = none) (b : Option ABlk)
    (h : YA P TE EQ RK ops ⟨T, M⟩ o v M') : M' = M ∧ YA P TE EQ RK ops ⟨T, upd M d b⟩ o v (upd M d b) := by
  rcases h with ⟨hw, hs⟩ | ⟨hw, h1, h2⟩
  · rcases hs with ⟨ups, h1, h2, h3, h4⟩ | ⟨K, ⟨x, args, ts, f, caps, ho, hf, hst, he⟩, h2, h3⟩
    · have := h3 hc
      subst this
      exact ⟨h2, .inl ⟨hw, .inl ⟨[], opA_r (clsO_op hc (by simp)) (fun x _ k hk => (hi.lvs x).1.agr hd b k (atR_at hk)) h1, rfl, fun _ => rfl, h4⟩⟩⟩
    · refine ⟨h2, .inl ⟨hw, .inr ⟨K, ⟨x, args, ts, f, caps, ho, hf, ?_⟩, rfl, h3⟩⟩⟩
      have hl : (evs T args.toList ++ caps).map (fz K (upd M d b)) = (evs T args.toList ++ caps).map (fz K M) := by
        refine List.map_congr_left fun y hy => fz_upd hi.mlv hd b K ?_
        rcases List.mem_append.1 hy with hy | hy
        · obtain ⟨z, _, rfl⟩ := List.mem_map.1 hy
          exact hi.lvs z
        · have := (hi.lvs x).2.2 f caps hf y hy
          obtain ⟨_, _, _, _, hr⟩ := hi
          have hv := hr.ev x
          simp only at hf
          rw [hf] at hv
          exact VR.caps_lvs hv y hy
      simp only at hst he ⊢
      rw [hl]
      exact ⟨hst, he⟩
  · exact ⟨h2, .inr ⟨hw, h1, rfl⟩⟩
theorem YA.unframe {ops : Array Oper} {n : Nat} {T : Tmps} {M : Mem} {o : Oper} {v : AVal} {M' : Mem} (hi : Inh n ⟨T, M⟩) (hc : clsO (RK.map (·.1)) o.dst o.op = .r) {d : Nat} (hd : M d = none) (b : Option ABlk)
    (h : YA P TE EQ RK ops ⟨T, upd M d b⟩ o v M') : M' = upd M d b ∧ YA P TE EQ RK ops ⟨T, M⟩ o v M := by
  have hback : ∀ x : AVal, x.lv M → Agr (upd M d b) M x := fun x hx k hk => (hx.agr hd b k hk).symm
  rcases h with ⟨hw, hs⟩ | ⟨hw, h1, h2⟩
  · rcases hs with ⟨ups, h1, h2, h3, h4⟩ | ⟨K, ⟨x, args, ts, f, caps, ho, hf, hst, he⟩, h2, h3⟩
    · have := h3 hc
      subst this
      exact ⟨h2, .inl ⟨hw, .inl ⟨[], opA_r (clsO_op hc (by simp)) (fun x _ k hk => hback _ (hi.lvs x).1 k (atR_at hk)) h1, rfl, fun _ => rfl, h4⟩⟩⟩
    · refine ⟨h2, .inl ⟨hw, .inr ⟨K, ⟨x, args, ts, f, caps, ho, hf, ?_⟩, rfl, h3⟩⟩⟩
      have hl : (evs T args.toList ++ caps).map (fz K (upd M d b)) = (evs T args.toList ++ caps).map (fz K M) := by
        refine List.map_congr_left fun y hy => fz_upd hi.mlv hd b K ?_
        rcases List.mem_append.1 hy with hy | hy
        · obtain ⟨z, _, rfl⟩ := List.mem_map.1 hy
          exact hi.lvs z
        · obtain ⟨_, _, _, _, hr⟩ := hi
          have hv := hr.ev x
          simp only at hf
          rw [hf] at hv
          exact VR.caps_lvs hv y hy
      simp only at hst he ⊢
      rw [hl] at hst he
      exact ⟨hst, he⟩
  · exact ⟨h2, .inr ⟨hw, h1, rfl⟩⟩
theorem YA.quiet {ops : Array Oper} {T : Tmps} {M : Mem} {o : Oper} {v : AVal} {M' : Mem} (hc : opCls o.op = .q) (h : YA P TE EQ RK ops ⟨T, M⟩ o v M') : M' = M ∧ ∀ M1, YA P TE EQ RK ops ⟨T, M1⟩ o v M1 := by
  rcases h with ⟨hw, hs⟩ | ⟨hw, h1, h2⟩
  · rcases hs with ⟨ups, h1, h2, h3, h4⟩ | ⟨K, ⟨x, args, ts, f, caps, ho, hf, hst, he⟩, h2, h3⟩
    · obtain ⟨rfl, hq⟩ := opA_q hc h1
      exact ⟨h2, fun M1 => .inl ⟨hw, .inl ⟨[], hq M1, rfl, fun _ => rfl, h4⟩⟩⟩
    · rw [ho] at hc; simp [opCls] at hc
  · exact ⟨h2, fun M1 => .inr ⟨hw, h1, rfl⟩⟩
theorem YA.reads {ops : Array Oper} {T : Tmps} {M : Mem} {o : Oper} {v : AVal} {M' : Mem} (hc : clsO (RK.map (·.1)) o.dst o.op = .r) (h : YA P TE EQ RK ops ⟨T, M⟩ o v M') : M' = M := by
  rcases h with ⟨hw, hs⟩ | ⟨hw, h1, h2⟩
  · rcases hs with ⟨ups, h1, h2, h3, h4⟩ | ⟨K, _, h2, h3⟩
    · have := h3 hc; subst this; exact h2
    · exact h2
  · exact h2
theorem YA.makes {ops : Array Oper} {T : Tmps} {M : Mem} {o : Oper} {v : AVal} {M' : Mem} (hc : opCls o.op = .a) (h : YA P TE EQ RK ops ⟨T, M⟩ o v M') :
    (M' = M ∧ ∀ M1, YA P TE EQ RK ops ⟨T, M1⟩ o v M1) ∨
    ∃ d blk, o.dst = some d ∧ M d = none ∧ M' = upd M d (some blk) ∧ ∀ M1 : Mem, M1 d = none → YA P TE EQ RK ops ⟨T, M1⟩ o v (upd M1 d (some blk)) := by
  rcases h with ⟨hw, hs⟩ | ⟨hw, h1, h2⟩
  · rcases hs with ⟨ups, h1, h2, h3, h4⟩ | ⟨K, ⟨x, args, ts, f, caps, ho, hf, hst, he⟩, h2, h3⟩
    · obtain ⟨d, blk, e1, e2, rfl, e4⟩ := opA_a hc h1
      exact .inr ⟨d, blk, e1, e2, h2, fun M1 hM => .inl ⟨hw, .inl ⟨_, e4 M1 hM, rfl, fun hr => (by rw [clsO_op hr (by simp)] at hc; cases hc), h4⟩⟩⟩
    · rw [ho] at hc; simp [opCls] at hc
  · exact .inl ⟨h2, fun M1 => .inr ⟨hw, h1, rfl⟩⟩
theorem ap_other {M : Mem} {k : Nat} : ∀ {ups : List (Nat × ABlk)}, (∀ p ∈ ups, p.1 ≠ k) → ap M ups k = M k
  | [], _ => rfl
  | (j, b) :: r, h => by
    rw [ap, ap_other (fun p hp => h p (by simp [hp])), upd_ne _ _ (fun e => h (j, b) (by simp) e.symm)]
theorem storeA_keys {M : Mem} {t : TypeId} {x v : AVal} {ups : List (Nat × ABlk)} (h : storeA TE M t x v = some ups) : (∀ p ∈ ups, x.at = some p.1 ∨ v.at = some p.1) ∧ ∀ M', Agr M M' x → Agr M M' v → storeA TE M' t x v = some ups := by
  unfold storeA at h ⊢
  cases ht : TE t with
  | none => simp [ht] at h
  | some i =>
    simp only [ht] at h ⊢
    split at h
    case isFalse => cases h
    rename_i hg
    cases x <;> simp only [reduceCtorEq] at h
    case ptr k off =>
      cases hm : M k with
      | none => simp [hm] at h
      | some blk =>
        cases blk <;> simp only [hm, reduceCtorEq] at h
        rename_i cs
        split at h
        case isFalse => cases h
        rename_i hle
        split at h
        · rename_i k' e hc
          cases hm' : M k' with
          | none => simp [hm'] at h
          | some blk' =>
            cases blk' <;> simp only [hm', reduceCtorEq] at h
            split at h
            case isFalse => cases h
            rename_i he
            simp only [Option.some.injEq] at h
            subst h
            refine ⟨fun p hp => ?_, fun M' h1 h2 => ?_⟩
            · simp only [List.mem_cons, List.not_mem_nil, or_false] at hp
              rcases hp with rfl | rfl
              · exact .inl rfl
              · exact .inr rfl
            · simp only [h1 k rfl, h2 k' rfl, hm, hm', if_pos hg, if_pos hle, hc, if_pos he]
        · rename_i hno
          simp only [Option.some.injEq] at h
          subst h
          refine ⟨fun p hp => ?_, fun M' h1 h2 => ?_⟩
          · simp only [List.mem_cons, List.not_mem_nil, or_false] at hp
            subst hp
            exact .inl rfl
          · simp only [h1 k rfl, hm, if_pos hg, if_pos hle]
    case eptr k e sz j off =>
      cases hm : M k with
      | none => simp [hm] at h
      | some blk =>
        cases blk <;> simp only [hm, reduceCtorEq] at h
        split at h
        case isFalse => cases h
        rename_i he
        split at h
        case h_2 => cases h
        rename_i y hy
        split at h
        case isFalse => cases h
        rename_i hle
        simp only [Option.some.injEq] at h
        subst h
        refine ⟨fun p hp => ?_, fun M' h1 h2 => ?_⟩
        · simp only [List.mem_cons, List.not_mem_nil, or_false] at hp
          subst hp
          exact .inl rfl
        · simp only [h1 k rfl, hm, if_pos hg, if_pos he, hy, if_pos hle]
theorem loadA_keys {M : Mem} {t : TypeId} {d : Option Tmp} {x v : AVal} {ups : List (Nat × ABlk)} (h : loadA TE M t d x = some (v, ups)) :
    (∀ p ∈ ups, x.at = some p.1 ∨ d = some p.1) ∧ ∀ M', Agr M M' x → (∀ e, d = some e → M' e = M e) → loadA TE M' t d x = some (v, ups) := by
  unfold loadA at h ⊢
  cases ht : TE t with
  | none => simp [ht] at h
  | some i =>
    simp only [ht] at h ⊢
    cases x <;> simp only [reduceCtorEq] at h
    case ptr k off =>
      cases hm : M k with
      | none => simp [hm] at h
      | some blk =>
        cases blk <;> simp only [hm, reduceCtorEq] at h
        rename_i cs
        split at h
        · rename_i hg
          split at h
          case isFalse => cases h
          rename_i hg2
          simp only [Option.some.injEq, Prod.mk.injEq] at h
          obtain ⟨rfl, rfl⟩ := h
          exact ⟨fun p hp => (by cases hp), fun M' h1 _ => by simp only [h1 k rfl, hm, if_pos hg, if_pos hg2]⟩
        · rename_i hg
          cases hc : cs[off]? with
          | none => simp [hc] at h
          | some c =>
            simp only [hc] at h
            cases c <;> simp only [reduceCtorEq, Option.some.injEq, Prod.mk.injEq] at h
            case own sz xs =>
              cases d with
              | none => simp at h
              | some e =>
                cases hd : M e with
                | some q => simp [hd] at h
                | none =>
                  simp only [hd, Option.some.injEq, Prod.mk.injEq] at h
                  obtain ⟨rfl, rfl⟩ := h
                  refine ⟨fun p hp => ?_, fun M' h1 h2 => by simp only [h1 k rfl, h2 e rfl, hm, if_neg hg, hc, hd]⟩
                  simp only [List.mem_cons, List.not_mem_nil, or_false] at hp
                  rcases hp with rfl | rfl
                  · exact .inl rfl
                  · exact .inr rfl
            all_goals
              obtain ⟨rfl, rfl⟩ := h
              exact ⟨fun p hp => (by cases hp), fun M' h1 _ => by simp only [h1 k rfl, hm, if_neg hg, hc]⟩
    case eptr k e sz j off =>
      refine ⟨?_, fun M' h1 _ => by simp only [h1 k rfl]; exact h⟩
      cases hm : M k with
      | none => simp [hm] at h
      | some blk =>
        cases blk <;> simp only [hm, reduceCtorEq] at h
        split at h
        case isFalse => cases h
        split at h
        case h_2 => cases h
        have := map_ups h
        subst this
        intro p hp
        cases hp
    case sptr cs =>
      have := map_ups h
      subst this
      exact ⟨fun p hp => (by cases hp), fun M' _ _ => h⟩
theorem appendA_keys {M : Mem} {t1 t2 : TypeId} {d : Option Tmp} {x y v : AVal} {ups : List (Nat × ABlk)} (h : appendA TE M t1 t2 x y d = some (v, ups)) :
    (∀ p ∈ ups, x.at = some p.1 ∨ d = some p.1) ∧ ∀ M', Agr M M' x → Agr M M' y → (∀ e, d = some e → M' e = M e) → appendA TE M' t1 t2 x y d = some (v, ups) := by
  unfold appendA at h ⊢
  split at h
  case h_2 => cases h
  rename_i e s1 b1 z1 i2 h1 h2
  try simp only [h1, h2]
  split at h
  · cases h
  rename_i ei he
  try simp only [he]
  split at h
  case isFalse => cases h
  rename_i hg
  try simp only [if_pos hg]
  cases hs : srcA M ei.size y with
  | none => simp [hs] at h
  | some ys =>
    simp only [hs] at h
    cases x <;> simp only [reduceCtorEq] at h
    case nil =>
      cases d with
      | none => simp at h
      | some d =>
        simp only at h
        cases hd : M d with
        | some q => simp [hd] at h
        | none =>
          simp only [hd] at h
          split at h
          case isFalse => cases h
          rename_i hb
          simp only [Option.some.injEq, Prod.mk.injEq] at h
          obtain ⟨rfl, rfl⟩ := h
          refine ⟨fun p hp => ?_, fun M' _ h4 h5 => by simp only [srcA_agr h4.o, hs, h5 d rfl, hd, if_pos hb]⟩
          simp only [List.mem_cons, List.not_mem_nil, or_false] at hp
          subst hp
          exact .inr rfl
    case os k e' =>
      cases hm : M k with
      | none => simp [hm] at h
      | some blk =>
        cases blk <;> simp only [hm, reduceCtorEq] at h
        split at h
        case isFalse => cases h
        rename_i hb
        simp only [Option.some.injEq, Prod.mk.injEq] at h
        obtain ⟨rfl, rfl⟩ := h
        refine ⟨fun p hp => ?_, fun M' h3 h4 _ => by simp only [srcA_agr h4.o, hs, h3 k rfl, hm, if_pos hb]⟩
        simp only [List.mem_cons, List.not_mem_nil, or_false] at hp
        subst hp
        exact .inl rfl
theorem opA_store {T : Tmps} {M : Mem} {o : Oper} {v : AVal} {ups : List (Nat × ABlk)} {ws : List Nat} {K : Nat → Bool} (hc : clsW ws o.dst o.op = .w) (hr : rkOk (some (ws, K)) o.dst o.op T = true) (h : opA TE EQ ⟨T, M⟩ o = some (v, ups)) :
    (∀ p ∈ ups, K p.1 = false) ∧ ∀ M', (∀ k, K k = false → M' k = M k) → opA TE EQ ⟨T, M'⟩ o = some (v, ups) := by
  simp only [rkOk, hc, Bool.and_eq_true] at hr
  obtain ⟨⟨h1, hd⟩, h2⟩ := hr
  obtain ⟨dst, op, type, pos, after, guard⟩ := o
  have hdk : ∀ e, dst = some e → K e = false := fun e he => by subst he; simpa using hd
  cases op <;> simp only [isStore, Bool.false_eq_true] at h1
  case store t a x =>
    simp only [opA] at h ⊢
    cases hs : storeA TE M t (ev T a) (ev T x) with
    | none => simp [hs] at h
    | some u =>
      simp only [hs, Option.map_some, Option.some.injEq, Prod.mk.injEq] at h
      obtain ⟨rfl, rfl⟩ := h
      obtain ⟨k1, k2⟩ := storeA_keys hs
      simp only [Op.operands, List.all_cons, List.all_nil, Bool.and_true, Bool.and_eq_true] at h2
      have ka : ∀ k, (ev T a).at = some k → K k = false := fun k hk => by have := h2.1; rw [hk] at this; simpa using this
      have kx : ∀ k, (ev T x).at = some k → K k = false := fun k hk => by have := h2.2; rw [hk] at this; simpa using this
      refine ⟨fun p hp => ?_, fun M' hM => ?_⟩
      · rcases k1 p hp with h | h
        · exact ka _ h
        · exact kx _ h
      · rw [k2 M' (fun k hk => hM k (ka k hk)) (fun k hk => hM k (kx k hk))]
        rfl
  case load t a =>
    simp only [opA] at h ⊢
    obtain ⟨k1, k2⟩ := loadA_keys h
    simp only [Op.operands, List.all_cons, List.all_nil, Bool.and_true] at h2
    have ka : ∀ k, (ev T a).at = some k → K k = false := fun k hk => by have := h2; rw [hk] at this; simpa using this
    exact ⟨fun p hp => (k1 p hp).elim (ka _) (hdk _), fun M' hM => k2 M' (fun k hk => hM k (ka k hk)) (fun e he => hM e (hdk e he))⟩
  case call c =>
    obtain ⟨cl, args, ts⟩ := c
    cases cl <;> try (simp only [Bool.false_eq_true] at h1; done)
    rename_i b
    cases b <;> try (simp only [Bool.false_eq_true] at h1; done)
    simp only [opA, builtinA] at h ⊢
    have hk2 : ∀ y ∈ evs T args.toList, ∀ k, y.at = some k → K k = false := by
      intro y hy k hk
      obtain ⟨z, hz, rfl⟩ := List.mem_map.1 hy
      have := List.all_eq_true.1 h2 z (by simpa [Op.operands, Call.operands] using hz)
      rw [hk] at this
      simpa using this
    generalize evs T args.toList = L at h hk2 ⊢
    split at h <;> first | (cases h; done) | skip
    all_goals first | (rename_i hq _ _; cases hq; done) | (rename_i hq _; cases hq; done) | (rename_i hq; cases hq; done) | skip
    rename_i t1 t2 x y _ hts
    obtain ⟨k1, k2⟩ := appendA_keys h
    have kx := hk2 x (by simp)
    have ky := hk2 y (by simp)
    exact ⟨fun p hp => (k1 p hp).elim (kx _) (hdk _), fun M' hM => k2 M' (fun k hk => hM k (kx k hk)) (fun k hk => hM k (ky k hk)) (fun e he => hM e (hdk e he))⟩
theorem fz_false (M M' : Mem) (x : AVal) : fz (fun _ => false) M' x = fz (fun _ => false) M x := by
  have h1 : ∀ y : AVal, fzc (fun _ => false) M' y = fzc (fun _ => false) M y := fun y => by cases y <;> rfl
  have h2 : fzc (fun _ => false) M' = fzc (fun _ => false) M := funext h1
  cases x <;> simp only [fz, h1, h2, Bool.false_eq_true, if_false]
theorem YA.rkeep {ops : Array Oper} {T : Tmps} {M M1 : Mem} {o : Oper} {v : AVal} {M' : Mem} {ws : List Nat} {K : Nat → Bool} (hc : clsW ws o.dst o.op = .r) (hM : ∀ k, K k = true → M1 k = M k) (h : YA P TE EQ (some (ws, K)) ops ⟨T, M⟩ o v M') :
    YA P TE EQ (some (ws, K)) ops ⟨T, M1⟩ o v M1 := by
  rcases h with ⟨hw, hs⟩ | ⟨hw, h1, h2⟩
  · rcases hs with ⟨ups, h1, h2, h3, h4⟩ | ⟨Kf, ⟨x, args, ts, f, caps, ho, hf, hst, he⟩, h2, h3, h4⟩
    · have := h3 hc
      subst this
      have hr := h4
      simp only [rkOk, hc, List.all_eq_true] at hr
      refine .inl ⟨hw, .inl ⟨[], opA_r (clsO_op (ws := some ws) hc (by simp)) (fun x hx k hk => hM k ?_) h1, rfl, fun _ => rfl, h4⟩⟩
      have := hr x (by simpa using hx)
      rw [hk] at this
      exact this
    · have := h4 rfl
      subst this
      have hl : (evs T args.toList ++ caps).map (fz (fun _ => false) M1) = (evs T args.toList ++ caps).map (fz (fun _ => false) M) := List.map_congr_left fun y _ => fz_false _ _ _
      exact .inl ⟨hw, .inr ⟨_, ⟨x, args, ts, f, caps, ho, hf, by rw [hl]; exact hst, by rw [hl]; exact he⟩, rfl, h3, h4⟩⟩
  · exact .inr ⟨hw, h1, rfl⟩
theorem YA.wkeep {ops : Array Oper} {T : Tmps} {M : Mem} {o : Oper} {v : AVal} {M' : Mem} {ws : List Nat} {K : Nat → Bool} (hc : clsW ws o.dst o.op = .w) (h : YA P TE EQ (some (ws, K)) ops ⟨T, M⟩ o v M') :
    ∀ k, K k = true → M' k = M k := by
  rcases h with ⟨hw, hs⟩ | ⟨hw, h1, rfl⟩
  · rcases hs with ⟨ups, h1, rfl, h3, h4⟩ | ⟨Kf, _, rfl, _⟩
    · obtain ⟨k1, _⟩ := opA_store hc h4 h1
      intro k hk
      exact ap_other fun p hp e => by have := k1 p hp; rw [e, hk] at this; cases this
    · exact fun _ _ => rfl
  · exact fun _ _ => rfl
end
end
section
section
variable {P : Program} {TE : TyE} {EQ : TypeId → Bool} {RK : Option (List Nat × (Nat → Bool))}
theorem AS.put_eq (T : Tmps) (M M' : Mem) (d : Option Tmp) (v : AVal) : AS.put ⟨T, M⟩ d v = ⟨(AS.put ⟨T, M'⟩ d v).T, M⟩ := by cases d <;> rfl
theorem AS.put_comm (T : Tmps) (M M1 M2 : Mem) {d e : Option Tmp} (v u : AVal) (h : ∀ x, d = some x → e ≠ some x) :
    AS.put ⟨(AS.put ⟨T, M1⟩ d v).T, M⟩ e u = AS.put ⟨(AS.put ⟨T, M2⟩ e u).T, M⟩ d v := by
  cases d with
  | none => cases e <;> rfl
  | some d =>
    cases e with
    | none => rfl
    | some e =>
      have hne : d ≠ e := fun he => h d rfl (he ▸ rfl)
      simp only [AS.put]
      rw [upd_comm T v u (Ne.symm hne)]
def okPair (rw : Bool) : Cls → Cls → Bool
  | .q, _ => true
  | _, .q => true
  | .r, .w => rw
  | .w, .r => rw
  | .r, .r => true
  | .a, .r => true
  | .r, .a => true
  | .a, .a => true
  | _, _ => false
def swapB (rw : Option (List Nat)) (ops : Array Oper) (x y : Oper) : Bool := x.apart ops y && okPair rw.isSome (clsO rw x.dst x.op) (clsO rw y.dst y.op)
theorem YA.swap {ops : Array Oper} {oi oj : Oper} (hap : swapB (RK.map (·.1)) ops oi oj = true) {n : Nat} {T : Tmps} {M Mi Mij : Mem} {vi vj : AVal} (hi : Inh n ⟨T, M⟩)
    (h1 : YA P TE EQ RK ops ⟨T, M⟩ oi vi Mi) (h2 : YA P TE EQ RK ops (AS.put ⟨T, Mi⟩ oi.dst vi) oj vj Mij) :
    ∃ Mj, YA P TE EQ RK ops ⟨T, M⟩ oj vj Mj ∧ YA P TE EQ RK ops (AS.put ⟨T, Mj⟩ oj.dst vj) oi vi Mij := by
  simp only [swapB, Bool.and_eq_true] at hap
  obtain ⟨hap, hok⟩ := hap
  obtain ⟨a1, a2, a3⟩ := Oper.apart_spec hap
  have e2 : YA P TE EQ RK ops ⟨T, Mi⟩ oj vj Mij := by
    rw [AS.put_eq T Mi NoM] at h2
    exact YA.congr (Looks.put (M' := NoM) a1).symm h2
  have back : ∀ Mj, YA P TE EQ RK ops ⟨T, Mj⟩ oi vi Mij → YA P TE EQ RK ops (AS.put ⟨T, Mj⟩ oj.dst vj) oi vi Mij := fun Mj h => by
    rw [AS.put_eq T Mj NoM]
    exact YA.congr (Looks.put (M := NoM) (M' := NoM) a3) h
  cases ci : clsO (RK.map (·.1)) oi.dst oi.op <;> cases cj : clsO (RK.map (·.1)) oj.dst oj.op <;> simp only [ci, cj, okPair, Bool.false_eq_true] at hok
  case q.q => obtain ⟨rfl, q1⟩ := h1.quiet (clsO_op ci (by simp)); exact ⟨Mij, e2, back _ (q1 _)⟩
  case q.r => obtain ⟨rfl, q1⟩ := h1.quiet (clsO_op ci (by simp)); exact ⟨Mij, e2, back _ (q1 _)⟩
  case q.a => obtain ⟨rfl, q1⟩ := h1.quiet (clsO_op ci (by simp)); exact ⟨Mij, e2, back _ (q1 _)⟩
  case q.w => obtain ⟨rfl, q1⟩ := h1.quiet (clsO_op ci (by simp)); exact ⟨Mij, e2, back _ (q1 _)⟩
  case r.q => obtain ⟨rfl, q1⟩ := e2.quiet (clsO_op cj (by simp)); exact ⟨M, q1 _, back _ h1⟩
  case a.q => obtain ⟨rfl, q1⟩ := e2.quiet (clsO_op cj (by simp)); exact ⟨M, q1 _, back _ h1⟩
  case w.q => obtain ⟨rfl, q1⟩ := e2.quiet (clsO_op cj (by simp)); exact ⟨M, q1 _, back _ h1⟩
  case r.w =>
    cases RK with
    | none => simp at hok
    | some wK =>
      obtain ⟨ws, K⟩ := wK
      obtain rfl := h1.reads ci
      exact ⟨Mij, e2, back _ (h1.rkeep ci (e2.wkeep cj))⟩
  case w.r =>
    cases RK with
    | none => simp at hok
    | some wK =>
      obtain ⟨ws, K⟩ := wK
      have hk := h1.wkeep ci
      obtain rfl := e2.reads cj
      exact ⟨M, e2.rkeep cj (fun k hK => (hk k hK).symm), back _ h1⟩
  case r.r =>
    obtain rfl := h1.reads ci
    obtain rfl := e2.reads cj
    exact ⟨Mij, e2, back _ h1⟩
  case r.a =>
    obtain rfl := h1.reads ci
    rcases e2.makes (clsO_op cj (by simp)) with ⟨rfl, q1⟩ | ⟨d, blk, b1, b2, rfl, b4⟩
    · exact ⟨Mij, e2, back _ h1⟩
    · exact ⟨_, e2, back _ (h1.frame hi ci b2 _).2⟩
  case a.r =>
    rcases h1.makes (clsO_op ci (by simp)) with ⟨rfl, q1⟩ | ⟨d, blk, b1, b2, rfl, b4⟩
    · exact ⟨Mij, e2, back _ (q1 _)⟩
    · obtain ⟨rfl, f2⟩ := e2.unframe hi cj b2 _
      exact ⟨M, f2, back _ h1⟩
  case a.a =>
    rcases h1.makes (clsO_op ci (by simp)) with ⟨rfl, q1⟩ | ⟨d, blk, b1, b2, rfl, b4⟩
    · exact ⟨Mij, e2, back _ (q1 _)⟩
    · rcases e2.makes (clsO_op cj (by simp)) with ⟨rfl, q1⟩ | ⟨e, blk', c1, c2, rfl, c4⟩
      · exact ⟨M, q1 _, back _ h1⟩
      · have hne : d ≠ e := fun he => a2 d b1 (by rw [c1, he])
        rw [upd_ne _ _ (Ne.symm hne)] at c2
        refine ⟨_, c4 M c2, back _ ?_⟩
        rw [upd_comm M _ _ (Ne.symm hne)]
        exact b4 _ (by rw [upd_ne _ _ hne]; exact b2)
theorem CallsA.wp {s : AS} {o : Oper} {Kf : Nat → Bool} {out : Out} {n : Nat} {B : Nat → Prop} {G : Gh} {a : Act} {w : World} (h : Rel n B G s a w)
    {K : Act → World → Prop} {Q : Exit → Act → World → Prop}
    (hr : match out with
      | .ret x => ∀ v' w' G', Adv G w G' w' → Rel n B G' ⟨s.T, if x.flt = true then s.M else kill Kf s.M⟩ a w' → VR (Dm (if x.flt = true then s.M else kill Kf s.M)) G' B w' x v' → K (a.put o.dst v') w'
      | .pan x => ∀ v' w' G', Adv G w G' w' → Rel n B G' ⟨s.T, if x.flt = true then s.M else kill Kf s.M⟩ a w' → VR (Dm (if x.flt = true then s.M else kill Kf s.M)) G' B w' x v' → Q (.panic [{ v := v', recovered := false }]) a w') (hc : CallsA P s o Kf out) :
    o.wp P a w K Q := by
  obtain ⟨x, args, ts, f, caps, ho, hf, hst, he⟩ := hc
  obtain ⟨fn, hfn, hnm, hbd⟩ := he.1.ok
  have hx := h.ev x
  rw [hf] at hx
  generalize hxv : a.eval x = xv at hx
  cases hx with
  | fn _ _ vs hl hh =>
    have hrun : (execOp a.eval o).run P w = .ok (.enter f (args.map a.eval ++ vs)) w := by
      unfold execOp
      rw [ho]
      have h1 : (fn.name = "runtime.NumGoroutine") = False := by simpa using hnm
      have h2 : (fn.body = none) = False := by simp only [eq_iff_iff, iff_false]; intro hn; rw [hn] at hbd; simp at hbd
      simp [resolve, hxv, Deferred.ofValue, invoke, callFunc, hfn, h1, h2]
    unfold Oper.wp
    rw [hrun]
    simp only [Oper.upon]
    obtain ⟨q1, q2⟩ := args_ok h args
    refine call_ok h Kf (args := evs s.T args.toList ++ caps) (by simp [q1, hl]) (fun i y u hy hu => ?_) hst he ?_
    · rcases Nat.lt_or_ge i (evs s.T args.toList).length with hlt | hge
      · rw [List.getElem?_append_left hlt] at hy
        rw [Array.getElem?_append_left (by rw [q1]; exact hlt)] at hu
        obtain ⟨u', hu', hr'⟩ := q2 i y hy
        rw [hu] at hu'
        exact (Option.some.inj hu') ▸ hr'
      · rw [List.getElem?_append_right hge] at hy
        rw [Array.getElem?_append_right (by rw [q1]; exact hge), q1] at hu
        exact hh _ y u hy hu
    · cases out <;> exact hr
theorem YA.sound {ops : Array Oper} (hT : TyOk P TE) (hE : ∀ t, EQ t = true → EqOk P t) {n : Nat} {B : Nat → Prop} {G : Gh} {s : AS} {a : Act} {w : World} (h : Rel n B G s a w) {o : Oper} {v : AVal} {M' : Mem}
    (hd : ∀ t, o.dst = some t → t < n) (hy : YA P TE EQ RK ops s o v M') {K : Act → World → Prop} {Q : Exit → Act → World → Prop}
    (hK : ∀ a' w' G', Adv G w G' w' → Rel n B G' (AS.put ⟨s.T, M'⟩ o.dst v) a' w' → K a' w') :
    if Region.wanted o (yielded ops a.tmps) = true then o.wp P a w K Q else K (a.put o.dst undef) w := by
  rcases hy with ⟨hw, hs⟩ | ⟨hw, rfl, rfl⟩
  · rw [if_pos (wantA_ok h hw)]
    rcases hs with ⟨ups, h1, rfl, h3, h4⟩ | ⟨Kf, hc, rfl, hk, _⟩
    · obtain ⟨r, w', v', G', e1, e2, e3, e4, e5⟩ := opA_ok hT hE h h1
      unfold Oper.wp
      rw [e1]
      rcases e2 with rfl | ⟨rfl, rfl⟩
      · exact hK _ _ G' e3 (e4.put hd e5)
      · exact hK _ _ G' e3 (e4.put hd e5)
    · refine CallsA.wp (out := .ret v) h (fun v' w' G' hA hR hV => ?_) hc
      have hM : (if v.flt = true then s.M else kill Kf s.M) = s.M := by
        rcases hk with hk | hk
        · simp [hk]
        · subst hk; simp [kill_none]
      rw [hM] at hR hV
      exact hK _ _ G' hA (hR.put hd hV)
  · rw [if_neg (by rw [wantA_ok h hw]; simp)]
    refine hK _ _ G (.refl G w) (h.put hd ?_)
    exact .tup [] #[] rfl fun n x v hx => by simp at hx
theorem wp_exists {o : Oper} {a : Act} {w : World} {K : Act → World → Prop} (h : o.wp P a w K (fun _ _ _ => False)) : ∃ a' w', K a' w' := by
  unfold Oper.wp at h
  generalize (execOp a.eval o).run P w = r at h
  cases r with
  | ok n w' =>
    cases n <;> simp only [Oper.upon] at h
    case value u => exact ⟨_, _, h⟩
    case skip => exact ⟨_, _, h⟩
    case defer d => exact ⟨_, _, h⟩
    case enter f args =>
      obtain ⟨e, w'', fr, hR, _⟩ := h []
      cases e with
      | returned v => exact ⟨_, _, hR⟩
      | panicked c => exact hR.elim
      | outgrown => obtain ⟨_, _, hf⟩ := hR; exact hf.elim
    case row row args =>
      obtain ⟨v, w'', hR, _⟩ := h default []
      exact ⟨_, _, hR⟩
  | halt x w' => cases x <;> simp only [Oper.upon] at h
theorem YA.inh {ops : Array Oper} (hT : TyOk P TE) (hE : ∀ t, EQ t = true → EqOk P t) {n : Nat} {s : AS} (h : Inh n s) {o : Oper} {v : AVal} {M' : Mem}
    (hd : ∀ t, o.dst = some t → t < n) (hy : YA P TE EQ RK ops s o v M') : Inh n (AS.put ⟨s.T, M'⟩ o.dst v) := by
  obtain ⟨B, G, a, w, h⟩ := h
  have := YA.sound (Q := fun _ _ _ => False) (K := fun a' w' => ∃ G', Rel n B G' (AS.put ⟨s.T, M'⟩ o.dst v) a' w') hT hE h hd hy (fun a' w' G' _ hR => ⟨G', hR⟩)
  split at this
  · obtain ⟨a', w', G', hR⟩ := wp_exists this
    exact ⟨B, G', a', w', hR⟩
  · obtain ⟨G', hR⟩ := this
    exact ⟨B, G', _, _, hR⟩
end
end
def EvNew (P : Program) (f : FuncId) (args : List AVal) (cs : List AVal) : Prop :=
  Callable P f ∧ ∀ (B : Nat → Prop) (w : World) (vs : Array Value) (G : Gh), (∀ b, G.ow b = none) → vs.size = args.length →
    (∀ (i : Nat) (x : AVal) (v : Value), args[i]? = some x → vs[i]? = some v → VR (Dm NoM) G B w x v) → (∀ b, B b → b < w.heap.size) →
    Calls P f vs w (fun e w' => ∃ (G' : Gh) (b : Nat) (c : Array Value) (el : TypeId), w.heap.size ≤ b ∧ b < w'.heap.size ∧ (G'.ow b ≠ none) ∧ Adv G w G' w' ∧
      e = .returned (.pointer (some ⟨b, 0, none⟩)) ∧ w'.heap[b]? = some (.cells c el (0, 0)) ∧ c.size = cs.length ∧
      ∀ (i : Nat) (x : AVal), cs[i]? = some x → ∃ u, c[i]? = some u ∧ VR (Dm NoM) G' B w' x u)
theorem callNew_ok {P : Program} {n : Nat} {B : Nat → Prop} {G : Gh} {s : AS} {a : Act} {w : World} (h : Rel n B G s a w) {f : FuncId} {args cs : List AVal} {vs : Array Value} (hl : vs.size = args.length)
    (hv : ∀ (i : Nat) (x : AVal) (v : Value), args[i]? = some x → vs[i]? = some v → VR (Dm s.M) G B w x v) (hs : stbs (args.map (fz (fun _ => false) s.M)) = true) (he : EvNew P f (args.map (fz (fun _ => false) s.M)) cs)
    {k : Nat} (hk : s.M k = none) {R : Ending → World → Prop}
    (hr : ∀ v' w' G', Adv G w G' w' → Rel n B G' ⟨s.T, upd s.M k (some (.cells cs))⟩ a w' → VR (Dm (upd s.M k (some (.cells cs)))) G' B w' (.ptr k 0) v' → R (.returned v') w') :
    Calls P f vs w R := by
  let B' : Nat → Prop := fun b => B b ∨ G.ow b ≠ none
  let G0 : Gh := { G with ow := fun _ => none }
  have hargs : ∀ (i : Nat) (x : AVal) (v : Value), (args.map (fz (fun _ => false) s.M))[i]? = some x → vs[i]? = some v → VR (Dm NoM) G0 B' w x v := by
    intro i x v hx hvi
    have hst := stbs_get hs hx
    rw [List.getElem?_map] at hx
    cases ha : args[i]? with
    | none => simp [ha] at hx
    | some y =>
      simp only [ha, Option.map_some, Option.some.injEq] at hx
      subst hx
      refine (fz_ok (K := fun _ => false) h.mem (hv i y v ha hvi)).stable (fun b _ hn ho => ?_) hst
      have ho' : G.ow b = none := by
        simp only [Gh.without] at ho
        cases hb : G.ow b with
        | none => rfl
        | some key => simp [hb] at ho
      exact ⟨rfl, by simp only [B', not_or]; exact ⟨hn, fun hc => hc ho'⟩, rfl⟩
  have hB' : ∀ b, B' b → b < w.heap.size := fun b hb => by
    rcases hb with hb | hb
    · exact (h.fr b hb).1
    · exact h.ol b hb
  refine (he.2 B' w vs G0 (fun _ => rfl) (by simpa using hl) hargs hB').mono fun e w' ⟨G', b, c, el, hb1, hb2, hob, hA, heq, hheap, hcs, hcells⟩ => ?_
  subst heq
  have hsame : ∀ b', b' < w.heap.size → w'.heap[b']? = w.heap[b']? := fun b' hb => (hA.keep b' hb rfl).1
  let G1 : Gh := { β := upd G.β k b, hd := G.hd, ow := fun b' => if b' = b then some (.box k) else G.ow b', hd1 := G.hd1 }
  have g1 : ∀ b', b' < w.heap.size → G1.ow b' = G.ow b' := fun b' hlt => if_neg (by omega)
  have hA1 : Adv G w G1 w' := ⟨hA.os, hA.tape, hA.output, hA.size, fun b' hlt ho => ⟨hsame b' hlt, by rw [g1 b' hlt]; exact ho⟩⟩
  have hG : ∀ j e, Dm s.M j e → G1.β j = G.β j ∧ G1.hd j e = G.hd j e := fun j e hj => ⟨upd_ne _ _ (fun e' => by subst e'; exact Dm_none hk hj), rfl⟩
  have hnB : ¬ B b := fun hB => by have := (h.fr b hB).1; omega
  have hR1 : Rel n B G1 ⟨s.T, upd s.M k (some (.cells cs))⟩ a w' := by
    refine h.update hA1 k (.cells cs) (by rw [hk]; trivial) hG (fun b' key hlt _ ho _ => ⟨hsame b' hlt, by rw [g1 b' hlt]; exact ho⟩) (fun b' hne => ?_) ?_
    · by_cases e : b' = b
      · rw [e]; exact hb2
      · have : G1.ow b' = G.ow b' := if_neg e
        rw [this] at hne
        exact Nat.lt_of_lt_of_le (h.ol b' hne) hA.size
    · have hβ : G1.β k = b := upd_same _ _ _
      refine ⟨c, el, by rw [hβ]; exact if_pos rfl, by rw [hβ]; exact hnB, by rw [hβ]; exact hheap, hcs, fun i x hx => ?_⟩
      obtain ⟨u, hu, hvr⟩ := hcells i x hx
      refine ⟨u, hu, CellRel.of_VR (hvr.mono (fun _ _ h => absurd h NoM_D) (fun _ _ h => absurd h NoM_D) fun b' hlt hn ho => ?_)⟩
      simp only [B', not_or, ne_eq, Classical.not_not] at hn
      have hne : b' ≠ b := fun e => by rw [e] at ho; exact hob ho
      exact ⟨rfl, hn.1, (if_neg hne).trans hn.2⟩
  refine hr _ w' G1 hA1 hR1 ?_
  have hβ : G1.β k = b := upd_same _ _ _
  have := VR.ptr (D := Dm (upd s.M k (some (.cells cs)))) (G := G1) (B := B) (w := w') k 0 (by simp [Dm, upd_same])
  rw [hβ] at this
  exact this

section
section
variable {P : Program} {TE : TyE} {EQ : TypeId → Bool} {RK : Option (List Nat × (Nat → Bool))}
def CallsN (P : Program) (s : AS) (o : Oper) (cs : List AVal) : Prop :=
  ∃ x args ts f caps, o.op = .call ⟨.value x, args, ts⟩ ∧ ev s.T x = .fn f caps ∧ stbs ((evs s.T args.toList ++ caps).map (fz (fun _ => false) s.M)) = true ∧ EvNew P f ((evs s.T args.toList ++ caps).map (fz (fun _ => false) s.M)) cs
def NewK (P : Program) (RK : Option (List Nat × (Nat → Bool))) (ops : Array Oper) (s : AS) (o : Oper) (v : AVal) (e : Nat) (blk : ABlk) : Prop :=
  wantA ops o s.T = some true ∧ RK = none ∧ o.dst = some e ∧ s.M e = none ∧ v = .ptr e 0 ∧ ∃ cs, blk = .cells cs ∧ CallsN P s o cs
def YN (P : Program) (TE : TyE) (EQ : TypeId → Bool) (RK : Option (List Nat × (Nat → Bool))) (ops : Array Oper) (s : AS) (o : Oper) (v : AVal) (M' : Mem) : Prop :=
  YA P TE EQ RK ops s o v M' ∨ ∃ e blk, NewK P RK ops s o v e blk ∧ M' = upd s.M e (some blk)
theorem NewK.cls {ops : Array Oper} {s : AS} {o : Oper} {v : AVal} {e : Nat} {blk : ABlk} (h : NewK P RK ops s o v e blk) : clsO (RK.map (·.1)) o.dst o.op = .r := by
  obtain ⟨_, rfl, _, _, _, cs, _, x, args, ts, f, caps, ho, _⟩ := h
  rw [ho]
  rfl
theorem NewK.congr {ops : Array Oper} {o : Oper} {T T' : Tmps} {M : Mem} {v : AVal} {e : Nat} {blk : ABlk} (h : Looks ops o T T') (hn : NewK P RK ops ⟨T, M⟩ o v e blk) : NewK P RK ops ⟨T', M⟩ o v e blk := by
  obtain ⟨h1, h2, h3, h4, h5, cs, h6, x, args, ts, f, caps, ho, hf, hs, he⟩ := hn
  have ha : evs T args.toList = evs T' args.toList := evs_congr fun y hy => h.ev (by rw [ho]; simp [Op.operands, Call.operands]; exact .inr (by simpa using hy))
  have hx : ev T x = ev T' x := h.ev (by rw [ho]; simp [Op.operands, Call.operands])
  refine ⟨by rw [← h.want]; exact h1, h2, h3, h4, h5, cs, h6, x, args, ts, f, caps, ho, ?_, ?_, ?_⟩
  · simp only at hf ⊢; rw [← hx]; exact hf
  · simp only at hs ⊢; rw [← ha]; exact hs
  · simp only at he ⊢; rw [← ha]; exact he
theorem args_upd {n : Nat} {T : Tmps} {M : Mem} (hi : Inh n ⟨T, M⟩) {d : Nat} (hd : M d = none) (b : Option ABlk) {x : Operand} {f : FuncId} {caps : List AVal} (hf : ev T x = .fn f caps) (l : List Operand) :
    (evs T l ++ caps).map (fz (fun _ => false) (upd M d b)) = (evs T l ++ caps).map (fz (fun _ => false) M) := by
  refine List.map_congr_left fun y hy => fz_upd hi.mlv hd b _ ?_
  rcases List.mem_append.1 hy with hy | hy
  · obtain ⟨z, _, rfl⟩ := List.mem_map.1 hy
    exact hi.lvs z
  · obtain ⟨_, _, _, _, hr⟩ := hi
    have hv := hr.ev x
    simp only at hv
    rw [hf] at hv
    exact VR.caps_lvs hv y hy
theorem NewK.frame {ops : Array Oper} {n : Nat} {T : Tmps} {M : Mem} {o : Oper} {v : AVal} {e : Nat} {blk : ABlk} (hi : Inh n ⟨T, M⟩) {d : Nat} (hd : M d = none) (hne : e ≠ d) (b : Option ABlk) (hn : NewK P RK ops ⟨T, M⟩ o v e blk) : NewK P RK ops ⟨T, upd M d b⟩ o v e blk := by
  obtain ⟨h1, h2, h3, h4, h5, cs, h6, x, args, ts, f, caps, ho, hf, hs, he⟩ := hn
  simp only at hf hs he h4
  have hl := args_upd hi hd b hf args.toList
  refine ⟨h1, h2, h3, ?_, h5, cs, h6, x, args, ts, f, caps, ho, hf, ?_, ?_⟩
  · simp only; rw [upd_ne _ _ hne]; exact h4
  · simp only; rw [hl]; exact hs
  · simp only; rw [hl]; exact he
theorem NewK.unframe {ops : Array Oper} {n : Nat} {T : Tmps} {M : Mem} {o : Oper} {v : AVal} {e : Nat} {blk : ABlk} (hi : Inh n ⟨T, M⟩) {d : Nat} (hd : M d = none) (hne : e ≠ d) (b : Option ABlk) (hn : NewK P RK ops ⟨T, upd M d b⟩ o v e blk) : NewK P RK ops ⟨T, M⟩ o v e blk := by
  obtain ⟨h1, h2, h3, h4, h5, cs, h6, x, args, ts, f, caps, ho, hf, hs, he⟩ := hn
  simp only at hf hs he h4
  have hl := args_upd hi hd b hf args.toList
  rw [hl] at hs he
  rw [upd_ne _ _ hne] at h4
  exact ⟨h1, h2, h3, h4, h5, cs, h6, x, args, ts, f, caps, ho, hf, hs, he⟩
theorem YN.congr {ops : Array Oper} {o : Oper} {T T' : Tmps} {M M' : Mem} {v : AVal} (h : Looks ops o T T') (hy : YN P TE EQ RK ops ⟨T, M⟩ o v M') : YN P TE EQ RK ops ⟨T', M⟩ o v M' := by
  rcases hy with hy | ⟨e, blk, hn, hM⟩
  · exact .inl (hy.congr h)
  · exact .inr ⟨e, blk, hn.congr h, hM⟩
theorem YN.swap {ops : Array Oper} {oi oj : Oper} (hap : swapB (RK.map (·.1)) ops oi oj = true) {n : Nat} {T : Tmps} {M Mi Mij : Mem} {vi vj : AVal} (hi : Inh n ⟨T, M⟩)
    (h1 : YN P TE EQ RK ops ⟨T, M⟩ oi vi Mi) (h2 : YN P TE EQ RK ops (AS.put ⟨T, Mi⟩ oi.dst vi) oj vj Mij) :
    ∃ Mj, YN P TE EQ RK ops ⟨T, M⟩ oj vj Mj ∧ YN P TE EQ RK ops (AS.put ⟨T, Mj⟩ oj.dst vj) oi vi Mij := by
  have hap0 := hap
  simp only [swapB, Bool.and_eq_true] at hap
  obtain ⟨hap, hok⟩ := hap
  obtain ⟨a1, a2, a3⟩ := Oper.apart_spec hap
  have e2 : YN P TE EQ RK ops ⟨T, Mi⟩ oj vj Mij := by
    rw [AS.put_eq T Mi NoM] at h2
    exact YN.congr (Looks.put (M' := NoM) a1).symm h2
  have back : ∀ Mj, YN P TE EQ RK ops ⟨T, Mj⟩ oi vi Mij → YN P TE EQ RK ops (AS.put ⟨T, Mj⟩ oj.dst vj) oi vi Mij := fun Mj h => by
    rw [AS.put_eq T Mj NoM]
    exact YN.congr (Looks.put (M := NoM) (M' := NoM) a3) h
  rcases h1 with h1 | ⟨e, blk, n1, rfl⟩
  · rcases e2 with e2 | ⟨e, blk, n2, rfl⟩
    · have h2' : YA P TE EQ RK ops (AS.put ⟨T, Mi⟩ oi.dst vi) oj vj Mij := by
        rw [AS.put_eq T Mi NoM]
        exact YA.congr (Looks.put (M' := NoM) a1) e2
      obtain ⟨Mj, q1, q2⟩ := YA.swap hap0 hi h1 h2'
      exact ⟨Mj, .inl q1, .inl q2⟩
    · have cj := n2.cls
      have hrk : RK = none := n2.2.1
      have hdst : oj.dst = some e := n2.2.2.1
      cases ci : clsO (RK.map (·.1)) oi.dst oi.op <;> simp only [ci, cj, okPair, Bool.false_eq_true] at hok
      case q =>
        obtain ⟨rfl, q1⟩ := h1.quiet (clsO_op ci (by simp))
        exact ⟨_, .inr ⟨e, blk, n2, rfl⟩, back _ (.inl (q1 _))⟩
      case r =>
        obtain rfl := h1.reads ci
        exact ⟨_, .inr ⟨e, blk, n2, rfl⟩, back _ (.inl (h1.frame hi ci n2.2.2.2.1 _).2)⟩
      case a =>
        rcases h1.makes (clsO_op ci (by simp)) with ⟨rfl, q1⟩ | ⟨d, b, b1, b2, rfl, b4⟩
        · exact ⟨_, .inr ⟨e, blk, n2, rfl⟩, back _ (.inl (q1 _))⟩
        · have hne : e ≠ d := fun he => a2 d b1 (by rw [hdst, he])
          have n3 := n2.unframe hi b2 hne _
          refine ⟨_, .inr ⟨e, blk, n3, rfl⟩, back _ (.inl ?_)⟩
          have := b4 (upd M e (some blk)) (by rw [upd_ne _ _ (Ne.symm hne)]; exact b2)
          simp only
          rw [upd_comm M _ _ hne]
          exact this
      case w => subst hrk; simp at hok
  · have ci := n1.cls
    have hrk : RK = none := n1.2.1
    have hdst : oi.dst = some e := n1.2.2.1
    have hfree : M e = none := n1.2.2.2.1
    rcases e2 with e2 | ⟨e', blk', n2, rfl⟩
    · cases cj : clsO (RK.map (·.1)) oj.dst oj.op <;> simp only [ci, cj, okPair, Bool.false_eq_true] at hok
      case q =>
        obtain ⟨rfl, q1⟩ := e2.quiet (clsO_op cj (by simp))
        exact ⟨M, .inl (q1 _), back _ (.inr ⟨e, blk, n1, rfl⟩)⟩
      case r =>
        obtain ⟨rfl, f2⟩ := e2.unframe hi cj hfree _
        exact ⟨M, .inl f2, back _ (.inr ⟨e, blk, n1, rfl⟩)⟩
      case a =>
        rcases e2.makes (clsO_op cj (by simp)) with ⟨rfl, q1⟩ | ⟨d, b, b1, b2, rfl, b4⟩
        · exact ⟨M, .inl (q1 _), back _ (.inr ⟨e, blk, n1, rfl⟩)⟩
        · have hne : e ≠ d := fun he => a2 e hdst (by rw [b1, he])
          simp only at b2
          rw [upd_ne _ _ (Ne.symm hne)] at b2
          refine ⟨_, .inl (b4 M b2), back _ (.inr ⟨e, blk, n1.frame hi b2 hne _, ?_⟩)⟩
          exact upd_comm M _ _ (Ne.symm hne)
      case w => subst hrk; simp at hok
    · have hdst' : oj.dst = some e' := n2.2.2.1
      have hne : e ≠ e' := fun he => a2 e hdst (by rw [hdst', he])
      have n3 := n2.unframe hi hfree (Ne.symm hne) _
      refine ⟨_, .inr ⟨e', blk', n3, rfl⟩, back _ (.inr ⟨e, blk, n1.frame hi n3.2.2.2.1 hne _, ?_⟩)⟩
      exact upd_comm M _ _ (Ne.symm hne)
theorem CallsN.wp {s : AS} {o : Oper} {cs : List AVal} {n : Nat} {B : Nat → Prop} {G : Gh} {a : Act} {w : World} (h : Rel n B G s a w) {k : Nat} (hk : s.M k = none)
    {K : Act → World → Prop} {Q : Exit → Act → World → Prop}
    (hr : ∀ v' w' G', Adv G w G' w' → Rel n B G' ⟨s.T, upd s.M k (some (.cells cs))⟩ a w' → VR (Dm (upd s.M k (some (.cells cs)))) G' B w' (.ptr k 0) v' → K (a.put o.dst v') w') (hc : CallsN P s o cs) :
    o.wp P a w K Q := by
  obtain ⟨x, args, ts, f, caps, ho, hf, hst, he⟩ := hc
  obtain ⟨fn, hfn, hnm, hbd⟩ := he.1.ok
  have hx := h.ev x
  rw [hf] at hx
  generalize hxv : a.eval x = xv at hx
  cases hx with
  | fn _ _ vs hl hh =>
    have hrun : (execOp a.eval o).run P w = .ok (.enter f (args.map a.eval ++ vs)) w := by
      unfold execOp
      rw [ho]
      have h1 : (fn.name = "runtime.NumGoroutine") = False := by simpa using hnm
      have h2 : (fn.body = none) = False := by simp only [eq_iff_iff, iff_false]; intro hn; rw [hn] at hbd; simp at hbd
      simp [resolve, hxv, Deferred.ofValue, invoke, callFunc, hfn, h1, h2]
    unfold Oper.wp
    rw [hrun]
    simp only [Oper.upon]
    obtain ⟨q1, q2⟩ := args_ok h args
    refine callNew_ok h (args := evs s.T args.toList ++ caps) (by simp [q1, hl]) (fun i y u hy hu => ?_) hst he hk hr
    rcases Nat.lt_or_ge i (evs s.T args.toList).length with hlt | hge
    · rw [List.getElem?_append_left hlt] at hy
      rw [Array.getElem?_append_left (by rw [q1]; exact hlt)] at hu
      obtain ⟨u', hu', hr'⟩ := q2 i y hy
      rw [hu] at hu'
      exact (Option.some.inj hu') ▸ hr'
    · rw [List.getElem?_append_right hge] at hy
      rw [Array.getElem?_append_right (by rw [q1]; exact hge), q1] at hu
      exact hh _ y u hy hu
theorem YN.sound {ops : Array Oper} (hT : TyOk P TE) (hE : ∀ t, EQ t = true → EqOk P t) {n : Nat} {B : Nat → Prop} {G : Gh} {s : AS} {a : Act} {w : World} (h : Rel n B G s a w) {o : Oper} {v : AVal} {M' : Mem}
    (hd : ∀ t, o.dst = some t → t < n) (hy : YN P TE EQ RK ops s o v M') {K : Act → World → Prop} {Q : Exit → Act → World → Prop}
    (hK : ∀ a' w' G', Adv G w G' w' → Rel n B G' (AS.put ⟨s.T, M'⟩ o.dst v) a' w' → K a' w') :
    if Region.wanted o (yielded ops a.tmps) = true then o.wp P a w K Q else K (a.put o.dst undef) w := by
  rcases hy with hy | ⟨e, blk, ⟨hw, _, _, hf, rfl, cs, rfl, hc⟩, rfl⟩
  · exact YA.sound hT hE h hd hy hK
  · rw [if_pos (wantA_ok h hw)]
    exact CallsN.wp h hf (fun v' w' G' hA hR hV => hK _ _ G' hA (hR.put hd hV)) hc
theorem YN.inh {ops : Array Oper} (hT : TyOk P TE) (hE : ∀ t, EQ t = true → EqOk P t) {n : Nat} {s : AS} (h : Inh n s) {o : Oper} {v : AVal} {M' : Mem}
    (hd : ∀ t, o.dst = some t → t < n) (hy : YN P TE EQ RK ops s o v M') : Inh n (AS.put ⟨s.T, M'⟩ o.dst v) := by
  obtain ⟨B, G, a, w, h⟩ := h
  have := YN.sound (Q := fun _ _ _ => False) (K := fun a' w' => ∃ G', Rel n B G' (AS.put ⟨s.T, M'⟩ o.dst v) a' w') hT hE h hd hy (fun a' w' G' _ hR => ⟨G', hR⟩)
  split at this
  · obtain ⟨a', w', G', hR⟩ := wp_exists this
    exact ⟨B, G', a', w', hR⟩
  · obtain ⟨G', hR⟩ := this
    exact ⟨B, G', _, _, hR⟩
end
end
section
section
variable {P : Program} {TE : TyE} {EQ : TypeId → Bool} {RK : Option (List Nat × (Nat → Bool))} {ops : Array Oper}
def opK (P : Program) (TE : TyE) (EQ : TypeId → Bool) (RK : Option (List Nat × (Nat → Bool))) (ops : Array Oper) (i : Nat) (K : AS → Prop) (s : AS) : Prop :=
  match ops[i]? with
  | none => K s
  | some o => ∃ v M', YN P TE EQ RK ops s o v M' ∧ K (AS.put ⟨s.T, M'⟩ o.dst v)
def anyA (P : Program) (TE : TyE) (EQ : TypeId → Bool) (RK : Option (List Nat × (Nat → Bool))) (ops : Array Oper) (Q : AS → Prop) : Nat → Array Bool → AS → Prop
  | 0, listed, s => Region.ready .any ops listed = [] ∧ Q s
  | fuel + 1, listed, s =>
    (Region.ready .any ops listed = [] → Q s) ∧
    ∀ i ∈ Region.ready .any ops listed, opK P TE EQ RK ops i (anyA P TE EQ RK ops Q fuel (listed.setIfInBounds i true)) s
def dstOk (n : Nat) (ops : Array Oper) : Prop := ∀ (i : Nat) (o : Oper), ops[i]? = some o → ∀ t, o.dst = some t → t < n
def aft (ops : Array Oper) (i : Nat) : Nat → Nat → Bool
  | 0, _ => false
  | n + 1, j => match ops[j]? with
    | some o => o.after.any fun e => Region.binds .any e && (e.on == i || aft ops i n e.on)
    | none => false
def closedL (ops : Array Oper) (listed : Array Bool) : Prop :=
  ∀ (j : Nat) (o : Oper), ops[j]? = some o → listed.getD j false = true → ∀ e ∈ o.after, Region.binds .any e = true → listed.getD e.on false = true
theorem aft_listed {listed : Array Bool} (hc : closedL ops listed) {i : Nat} : ∀ (n j : Nat) (o : Oper), ops[j]? = some o → (∀ e ∈ o.after, Region.binds .any e = true → listed.getD e.on false = true) → aft ops i n j = true → listed.getD i false = true
  | 0, j, o, _, _, h => by simp [aft] at h
  | n + 1, j, o, ho, ha, h => by
    simp only [aft, ho] at h
    obtain ⟨e, he, hb⟩ := Array.any_eq_true'.1 h
    simp only [Bool.and_eq_true, Bool.or_eq_true, beq_iff_eq] at hb
    have hl := ha e he hb.1
    rcases hb.2 with h1 | h1
    · rw [← h1]; exact hl
    · cases hq : ops[e.on]? with
      | none => cases n <;> simp [aft, hq] at h1
      | some q => exact aft_listed hc n e.on q hq (hc e.on q hq hl) h1
theorem closedL_set {listed : Array Bool} (hc : closedL ops listed) {j : Nat} {o : Oper} (ho : ops[j]? = some o) (ha : ∀ e ∈ o.after, Region.binds .any e = true → listed.getD e.on false = true) : closedL ops (listed.setIfInBounds j true) := by
  intro k q hq hk e he hb
  by_cases hkj : j = k
  · subst hkj
    rw [ho] at hq
    cases hq
    exact getD_set_true (ha e he hb)
  · rw [getD_set_ne false hkj] at hk
    exact getD_set_true (hc k q hq hk e he hb)
theorem anyA_first (hT : TyOk P TE) (hE : ∀ t, EQ t = true → EqOk P t) {n : Nat} (hn : dstOk n ops) {Q : AS → Prop} {i : Nat} {oi : Oper} {v : AVal} (hi : ops[i]? = some oi) :
    ∀ (fuel : Nat) (listed : Array Bool) (T : Tmps) (M M' : Mem),
      (∀ j oj, ops[j]? = some oj → j ≠ i → listed.getD j true = false → aft ops i 2 j = false → swapB (RK.map (·.1)) ops oi oj = true) → closedL ops listed →
      i ∈ Region.ready .any ops listed → Inh n ⟨T, M⟩ → YN P TE EQ RK ops ⟨T, M⟩ oi v M' →
      anyA P TE EQ RK ops Q fuel (listed.setIfInBounds i true) (AS.put ⟨T, M'⟩ oi.dst v) → anyA P TE EQ RK ops Q (fuel + 1) listed ⟨T, M⟩ := by
  intro fuel
  induction fuel with
  | zero =>
    intro listed T M M' _ hcl hr hI hy H
    refine ⟨fun h => (by rw [h] at hr; cases hr), fun j hj => ?_⟩
    by_cases hji : j = i
    · subst hji; unfold opK; simp only [hi]; exact ⟨v, M', hy, H⟩
    · have := ready_mono hj hji
      rw [H.1] at this
      cases this
  | succ fuel ih =>
    intro listed T M M' hfree hcl hr hI hy H
    refine ⟨fun h => (by rw [h] at hr; cases hr), fun j hj => ?_⟩
    by_cases hji : j = i
    · subst hji; unfold opK; simp only [hi]; exact ⟨v, M', hy, H⟩
    · have h1 := H.2 j (ready_mono hj hji)
      obtain ⟨hjun, oj, hoj, hall⟩ := mem_ready.1 hj
      have hnot : aft ops i 2 j = false := by
        cases hq : aft ops i 2 j with
        | false => rfl
        | true =>
          have h1 := aft_listed hcl 2 j oj hoj hall hq
          have h0 := (mem_ready.1 hr).1
          rcases Nat.lt_or_ge i listed.size with h' | h'
          · simp [h'] at h0 h1; rw [h0] at h1; cases h1
          · simp [Array.getElem?_eq_none h'] at h1
      have hsw := hfree j oj hoj hji hjun hnot
      unfold opK at h1 ⊢
      simp only [hoj] at h1 ⊢
      obtain ⟨vj, Mij, hyj, hK⟩ := h1
      obtain ⟨Mj, s1, s2⟩ := YN.swap hsw hI hy hyj
      refine ⟨vj, Mj, s1, ?_⟩
      have hI' := YN.inh hT hE hI (hn j oj hoj) s1
      have hfree' : ∀ k ok, ops[k]? = some ok → k ≠ i → (listed.setIfInBounds j true).getD k true = false →
          aft ops i 2 k = false → swapB (RK.map (·.1)) ops oi ok = true := fun k ok hk hki hun hno => by
        refine hfree k ok hk hki ?_ hno
        by_cases hjk : j = k
        · subst hjk; exact hjun
        · rw [getD_set_ne true hjk] at hun; exact hun
      have hap : ∀ x, oi.dst = some x → oj.dst ≠ some x := by
        simp only [swapB, Bool.and_eq_true] at hsw
        exact (Oper.apart_spec hsw.1).2.1
      rw [AS.put_eq T Mj NoM] at hI' s2 ⊢
      refine ih (listed.setIfInBounds j true) _ _ Mij hfree' (closedL_set hcl hoj hall) (ready_mono hr (Ne.symm hji)) hI' s2 ?_
      rw [Array.setIfInBounds_comm _ _ hji]
      rw [AS.put_eq T M' NoM] at hK
      rw [AS.put_comm T Mij NoM NoM v vj hap] at hK
      exact hK
def lexA (P : Program) (TE : TyE) (EQ : TypeId → Bool) (RK : Option (List Nat × (Nat → Bool))) (ops : Array Oper) (Q : AS → Prop) : List Oper → AS → Prop
  | [], s => Q s
  | o :: rest, s => ∃ v M', YN P TE EQ RK ops s o v M' ∧ lexA P TE EQ RK ops Q rest (AS.put ⟨s.T, M'⟩ o.dst v)
def freeA (rw : Option (List Nat)) (ops : Array Oper) (listed : Array Bool) (i : Nat) : Bool :=
  match ops[i]? with
  | none => false
  | some oi => (List.range ops.size).all fun j => j == i || listed.getD j true || match ops[j]? with
      | some oj => aft ops i 2 j || swapB rw ops oi oj
      | none => true
theorem freeA_spec {i : Nat} {oi : Oper} {listed : Array Bool} (hi : ops[i]? = some oi) (h : freeA (RK.map (·.1)) ops listed i = true) (j : Nat) (oj : Oper)
    (hj : ops[j]? = some oj) (hne : j ≠ i) (hun : listed.getD j true = false) (hno : aft ops i 2 j = false) :
    swapB (RK.map (·.1)) ops oi oj = true := by
  simp only [freeA, hi, List.all_eq_true, List.mem_range] at h
  have h1 := h j (Array.getElem?_eq_some_iff.1 hj).1
  simpa only [hj, Bool.or_eq_true, beq_iff_eq, hne, false_or, hun, Bool.false_eq_true, hno] using h1
def lexFromA (rw : Option (List Nat)) (ops : Array Oper) : Nat → Nat → Array Bool → Bool
  | 0, _, listed => (Region.ready .any ops listed).isEmpty
  | fuel + 1, k, listed => (Region.ready .any ops listed).contains k && freeA rw ops listed k && lexFromA rw ops fuel (k + 1) (listed.setIfInBounds k true)
def lexBA (rw : Option (List Nat)) (ops : Array Oper) : Bool := lexFromA rw ops ops.size 0 (Array.replicate ops.size false)
theorem anyA_lex (hT : TyOk P TE) (hE : ∀ t, EQ t = true → EqOk P t) {n : Nat} (hn : dstOk n ops) {Q : AS → Prop} : ∀ (l : List Oper) (k : Nat) (listed : Array Bool) (s : AS), (∀ j, l[j]? = ops[k + j]?) →
    lexFromA (RK.map (·.1)) ops l.length k listed = true → closedL ops listed → Inh n s → lexA P TE EQ RK ops Q l s → anyA P TE EQ RK ops Q l.length listed s
  | [], _, _, _, _, hB, _, _, h => ⟨by simpa [lexFromA] using hB, h⟩
  | o :: l, k, listed, s, hl, hB, hcl, hI, h => by
    have h0 : ops[k]? = some o := by simpa using (hl 0).symm
    simp only [List.length_cons, lexFromA, Bool.and_eq_true] at hB
    obtain ⟨⟨hr, hf⟩, hB'⟩ := hB
    obtain ⟨v, M', hy, hK⟩ := h
    exact anyA_first hT hE hn h0 l.length listed s.T s.M M' (freeA_spec h0 hf) hcl (by simpa using hr) hI hy
      (anyA_lex hT hE hn l (k + 1) _ _ (fun j => by have := hl (j + 1); simpa [Nat.add_assoc, Nat.add_comm 1 j] using this) hB' (closedL_set hcl h0 (by
        have hm : k ∈ Region.ready .any ops listed := by simpa using hr
        obtain ⟨_, o', ho', ha⟩ := mem_ready.1 hm
        rw [h0] at ho'
        cases ho'
        exact ha)) (YN.inh hT hE hI (hn k o h0) hy) hK)
theorem wpAny_of_anyA (hT : TyOk P TE) (hE : ∀ t, EQ t = true → EqOk P t) {n : Nat} (hn : dstOk n ops) {Q : AS → Prop} {Q' : Exit → Act → World → Prop} {B : Nat → Prop} {G0 : Gh} {w0 : World}
    (hQ : ∀ s a w G, Adv G0 w0 G w → Rel n B G s a w → Q s → Q' .normal a w) : ∀ (fuel : Nat) (listed : Array Bool) (s : AS) (a : Act) (w : World) (G : Gh), Adv G0 w0 G w → Rel n B G s a w →
    anyA P TE EQ RK ops Q fuel listed s → wpAny P .any ops Q' fuel listed a w
  | 0, _, s, a, w, G, hA, hR, h => ⟨h.1, hQ s a w G hA hR h.2⟩
  | fuel + 1, listed, s, a, w, G, hA, hR, h => by
    refine ⟨fun h0 => hQ s a w G hA hR (h.1 h0), fun i hi => ?_⟩
    have h1 := h.2 i hi
    unfold opK at h1
    unfold wpOp
    cases ho : ops[i]? with
    | none => simp only [ho] at h1 ⊢; exact wpAny_of_anyA hT hE hn hQ fuel _ s a w G hA hR h1
    | some o =>
      simp only [ho] at h1 ⊢
      obtain ⟨v, M', hy, hK⟩ := h1
      have := YN.sound (Q := Q') (K := wpAny P .any ops Q' fuel (listed.setIfInBounds i true)) hT hE hR (hn i o ho) hy (fun a' w' G' hA' hR' => wpAny_of_anyA hT hE hn hQ fuel _ _ a' w' G' (hA.trans hA') hR' hK)
      split at this
      · rename_i hw; rw [if_pos hw]; exact .inl this
      · rename_i hw; rw [if_neg hw]; exact this
theorem region_draw_ok (hm : P.follows .mixedOrders = true) (hT : TyOk P TE) (hE : ∀ t, EQ t = true → EqOk P t) {n : Nat} (hn : dstOk n ops) (hB : lexBA (RK.map (·.1)) ops = true) {Q : AS → Prop} {Q' : Exit → Act → World → Prop} {B : Nat → Prop} {G : Gh}
    {s : AS} {a : Act} {w : World} {id : Nat} (hR : Rel n B G s a w) (hQ : ∀ s a' w' G', Adv G w G' w' → Rel n B G' s a' w' → Q s → Q' .normal a' w') (h : lexA P TE EQ RK ops Q ops.toList s) :
    (Code.region id ops true).wp P Q' a w := by
  refine wp_region_any hm ?_
  have h1 := anyA_lex hT hE hn ops.toList 0 (Array.replicate ops.size false) s (by simp) (by simpa [lexBA] using hB) (fun j o _ hj => by
    simp only [Array.getD_eq_getD_getElem?, Array.getElem?_replicate] at hj
    split at hj <;> simp at hj) ⟨B, G, a, w, hR⟩ h
  have := wpAny_of_anyA (Q' := Q') hT hE hn (B := B) (G0 := G) (w0 := w) (fun s a' w' G' hA hR' hq => hQ s a' w' G' hA hR' hq) _ _ s a { w with drawn := w.drawn + 1 } G (Adv.drawn G w _) (hR.drawn _) h1
  simpa using this
end
end
section
structure Env where
  P : Program
  TE : TyE
  EQ : TypeId → Bool
  hm : P.follows .mixedOrders = true
  hT : TyOk P TE
  hE : ∀ t, EQ t = true → EqOk P t
structure SOp where
  dst : Option Tmp
  op : Op
  g : Option (Option Tmp × Bool)
inductive SC where
  | skip
  | ops (draw : Bool) (l : List SOp)
  | opsW (ws : List Nat) (l : List SOp)
  | seq (x y : SC)
  | cond (c : Operand) (x y : SC)
  | block (id : Nat) (x : SC)
  | loop (x : SC)
  | exit (id : Nat)
  | ret
def slimOp (ops : Array Oper) (o : Oper) : SOp := ⟨o.dst, o.op, match o.guard with | none => none | some (j, b) => some ((ops[j]?).bind (·.dst), b)⟩
def dstB (n : Nat) (ops : Array Oper) : Bool := ops.toList.all fun o => match o.dst with | some t => decide (t < n) | none => true
theorem dstB_ok {n : Nat} {ops : Array Oper} (h : dstB n ops = true) : dstOk n ops := by
  intro i o ho t ht
  have := List.all_eq_true.1 h o (by rw [← Array.getElem?_toList] at ho; exact List.mem_of_getElem? ho)
  simpa [ht] using this
def takenOf (ops : Array Oper) : List Nat :=
  ops.toList.filterMap fun (p : Oper) => match p.op with
    | .call ⟨.builtin .append, args, _⟩ => match (args[0]? : Option Operand) with
      | some (.tmp t) => some t
      | _ => none
    | _ => none
def slim (n : Nat) : Code → Option SC
  | .skip => some .skip
  | .region _ ops draw =>
    if dstB n ops && (!draw || lexBA none ops) then some (.ops draw (ops.toList.map (slimOp ops)))
    else if dstB n ops && lexBA (some (takenOf ops)) ops then some (.opsW (takenOf ops) (ops.toList.map (slimOp ops))) else none
  | .seq x y => match slim n x, slim n y with | some x, some y => some (.seq x y) | _, _ => none
  | .cond c x y => match slim n x, slim n y with | some x, some y => some (.cond c x y) | _, _ => none
  | .block id x => match slim n x with | some x => some (.block id x) | none => none
  | .loop x => match slim n x with | some x => some (.loop x) | none => none
  | .exit id => some (.exit id)
  | .ret => some .ret
  | _ => none
inductive Ex where
  | normal
  | exit (id : Nat)
  | ret
  | pan (v : AVal)
def Post (n : Nat) (B : Nat → Prop) (G : Gh) (w : World) (Q : Ex → AS → Prop) (Q' : Exit → Act → World → Prop) : Prop :=
  ∀ e s a' w' G', Adv G w G' w' → Rel n B G' s a' w' → Q e s →
    match e with
    | .normal => Q' .normal a' w'
    | .exit id => Q' (.exit id) a' w'
    | .ret => Q' .ret a' w'
    | .pan x => ∀ v', VR (Dm s.M) G' B w' x v' → Q' (.panic [{ v := v', recovered := false }]) a' w'
theorem Post.adv {n : Nat} {B : Nat → Prop} {G G1 : Gh} {w w1 : World} {Q : Ex → AS → Prop} {Q' : Exit → Act → World → Prop} (h : Post n B G w Q Q') (hA : Adv G w G1 w1) : Post n B G1 w1 Q Q' :=
  fun e s a' w' G' hA' hR hq => h e s a' w' G' (hA.trans hA') hR hq
def AW (E : Env) (n : Nat) (x : SC) (Q : Ex → AS → Prop) (s : AS) : Prop :=
  ∀ c, slim n c = some x → ∀ B G a w, Rel n B G s a w → ∀ Q', Post n B G w Q Q' → c.wp E.P Q' a w
def Wk (n : Nat) (s s' : AS) : Prop := ∀ B G a w, Rel n B G s a w → ∃ G', Rel n B G' s' a w ∧ Adv G w G' w
theorem Wk.refl (n : Nat) (s : AS) : Wk n s s := fun B G a w h => ⟨G, h, .refl G w⟩
theorem Wk.trans {n : Nat} {s s1 s2 : AS} (h : Wk n s s1) (h' : Wk n s1 s2) : Wk n s s2 := fun B G a w hR =>
  let ⟨G1, h1, a1⟩ := h B G a w hR
  let ⟨G2, h2, a2⟩ := h' B G1 a w h1
  ⟨G2, h2, a1.trans a2⟩
section
variable {E : Env} {n : Nat} {Q : Ex → AS → Prop} {s : AS}
theorem AW.wk {x : SC} {s' : AS} (hw : Wk n s s') (h : AW E n x Q s') : AW E n x Q s := fun c hc B G a w hR Q' hP =>
  let ⟨G1, h1, a1⟩ := hw B G a w hR
  h c hc B G1 a w h1 Q' (hP.adv a1)
theorem AW.mono {x : SC} {Q1 : Ex → AS → Prop} (h : AW E n x Q1 s) (hq : ∀ e s, Q1 e s → Q e s) : AW E n x Q s := fun c hc B G a w hR Q' hP =>
  h c hc B G a w hR Q' fun e s a' w' G' hA hR hq1 => hP e s a' w' G' hA hR (hq e s hq1)
theorem AW.skip (h : Q .normal s) : AW E n .skip Q s := by
  intro c hc B G a w hR Q' hP
  cases c <;> simp only [slim, reduceCtorEq] at hc
  case skip => exact wp_skip (hP _ _ _ _ _ (.refl G w) hR h)
  all_goals first | (simp at hc; done) | (split at hc <;> simp at hc; done) | skip
theorem AW.ret (h : Q .ret s) : AW E n .ret Q s := by
  intro c hc B G a w hR Q' hP
  cases c <;> simp only [slim, reduceCtorEq] at hc
  case ret => exact wp_ret (hP _ _ _ _ _ (.refl G w) hR h)
  all_goals first | (simp at hc; done) | (split at hc <;> simp at hc; done) | skip
theorem AW.exit {id : Nat} (h : Q (.exit id) s) : AW E n (.exit id) Q s := by
  intro c hc B G a w hR Q' hP
  cases c <;> simp only [slim, reduceCtorEq] at hc
  case exit id' =>
    simp only [Option.some.injEq, SC.exit.injEq] at hc
    subst hc
    exact wp_exit (hP _ _ _ _ _ (.refl G w) hR h)
  all_goals first | (simp at hc; done) | (split at hc <;> simp at hc; done) | skip
def Ex.then (next : AS → Prop) (Q : Ex → AS → Prop) : Ex → AS → Prop
  | .normal, s => next s
  | e, s => Q e s
theorem AW.seq {x y : SC} (h : AW E n x (Ex.then (AW E n y Q) Q) s) : AW E n (.seq x y) Q s := by
  intro c hc B G a w hR Q' hP
  cases c <;> simp only [slim, reduceCtorEq] at hc
  case seq cx cy =>
    split at hc
    case h_2 => simp at hc
    rename_i x' y' hx hy
    simp only [Option.some.injEq, SC.seq.injEq] at hc
    obtain ⟨rfl, rfl⟩ := hc
    refine wp_seq (h cx hx B G a w hR _ fun e s1 a' w' G' hA hR' hq => ?_)
    cases e with
    | normal => exact hq cy hy B G' a' w' hR' Q' (hP.adv hA)
    | exit id => exact hP _ _ _ _ _ hA hR' hq
    | ret => exact hP _ _ _ _ _ hA hR' hq
    | pan v => exact hP _ _ _ _ _ hA hR' hq
  all_goals first | (simp at hc; done) | (split at hc <;> simp at hc; done) | skip
theorem AW.cond {o : Operand} {x y : SC} {b : Bool} (hb : ev s.T o = .bool b) (ht : b = true → AW E n x Q s) (hf : b = false → AW E n y Q s) : AW E n (.cond o x y) Q s := by
  intro c hc B G a w hR Q' hP
  cases c <;> simp only [slim, reduceCtorEq] at hc
  case cond co cx cy =>
    split at hc
    case h_2 => simp at hc
    rename_i x' y' hx hy
    simp only [Option.some.injEq, SC.cond.injEq] at hc
    obtain ⟨rfl, rfl, rfl⟩ := hc
    have hv := hR.ev co
    rw [hb] at hv
    have hv' : a.eval co = .bool b := by generalize a.eval co = cv at hv; cases hv; rfl
    exact wp_cond_split hv' (fun h1 => ht h1 cx hx B G a w hR Q' hP) (fun h1 => hf h1 cy hy B G a w hR Q' hP)
  all_goals first | (simp at hc; done) | (split at hc <;> simp at hc; done) | skip
def Ex.inBlock (id : Nat) (Q : Ex → AS → Prop) : Ex → AS → Prop
  | .exit id', s => if id' = id then Q .normal s else Q (.exit id') s
  | e, s => Q e s
theorem AW.block {id : Nat} {x : SC} (h : AW E n x (Ex.inBlock id Q) s) : AW E n (.block id x) Q s := by
  intro c hc B G a w hR Q' hP
  cases c <;> simp only [slim, reduceCtorEq] at hc
  case block id' cx =>
    split at hc
    case h_2 => simp at hc
    rename_i x' hx
    simp only [Option.some.injEq, SC.block.injEq] at hc
    obtain ⟨rfl, rfl⟩ := hc
    refine wp_block (h cx hx B G a w hR _ fun e s1 a' w' G' hA hR' hq => ?_)
    cases e with
    | normal => exact hP .normal _ _ _ _ hA hR' hq
    | exit id =>
      simp only [Ex.inBlock, Exit.inBlock] at hq ⊢
      split
      · rename_i he; rw [if_pos he] at hq; exact hP .normal _ _ _ _ hA hR' hq
      · rename_i he; rw [if_neg he] at hq; exact hP (.exit id) _ _ _ _ hA hR' hq
    | ret => exact hP .ret _ _ _ _ hA hR' hq
    | pan v => exact hP (.pan v) _ _ _ _ hA hR' hq
  all_goals first | (simp at hc; done) | (split at hc <;> simp at hc; done) | skip
theorem AW.loop {x : SC} (I : Nat → AS → Prop) {m0 : Nat} (h0 : I m0 s)
    (round : ∀ m s, I m s → AW E n x (Ex.then (fun s' => ∃ m' s'', m' < m ∧ Wk n s' s'' ∧ I m' s'') Q) s) : AW E n (.loop x) Q s := by
  intro c hc B G a w hR Q' hP
  cases c <;> simp only [slim, reduceCtorEq] at hc
  case loop cx =>
    split at hc
    case h_2 => simp at hc
    rename_i x' hx
    simp only [Option.some.injEq, SC.loop.injEq] at hc
    subst hc
    let J : Nat → Act → World → Prop := fun m a' w' => ∃ s' G', Adv G w G' w' ∧ Rel n B G' s' a' w' ∧ I m s'
    intro b k cs
    have key : ∀ m a' w', J m a' w' → ∃ e a'' w'', Q' e a'' w'' ∧ Arrives E.P (lone (b.at a' (.code cx :: .inLoop cx :: k)) cs w') b k cs e a'' w'' := by
      intro m
      induction m using Nat.strongRecOn with
      | _ m ih =>
        intro a' w' ⟨s', G', hA, hR', hI⟩
        obtain ⟨e, a1, w1, hq, harr⟩ := round m s' hI cx hx B G' a' w' hR' (Exit.then (fun a1 w1 => ∃ m', m' < m ∧ J m' a1 w1) Q') (fun e s1 a1 w1 G1 hA1 hR1 hq => by
          cases e with
          | normal =>
            obtain ⟨m', s2, hlt, hwk, hI2⟩ := hq
            obtain ⟨G2, hR2, hA2⟩ := hwk B G1 a1 w1 hR1
            exact ⟨m', hlt, s2, G2, (hA.trans hA1).trans hA2, hR2, hI2⟩
          | exit id => exact hP (.exit id) _ _ _ _ (hA.trans hA1) hR1 hq
          | ret => exact hP .ret _ _ _ _ (hA.trans hA1) hR1 hq
          | pan v => exact hP (.pan v) _ _ _ _ (hA.trans hA1) hR1 hq) b (.inLoop cx :: k) cs
        cases e with
        | normal =>
          obtain ⟨m', hlt, hJ⟩ := hq
          obtain ⟨e2, a2, w2, hq2, harr2⟩ := ih m' hlt a1 w1 hJ
          exact ⟨e2, a2, w2, hq2, .of_steps (Steps.trans harr (.one step_inLoop)) harr2⟩
        | exit id => exact ⟨_, a1, w1, hq, .pass (x := .inLoop cx) rfl (fun _ _ => .inl (by simp)) harr⟩
        | goto l => exact ⟨_, a1, w1, hq, .pass (x := .inLoop cx) rfl (fun _ _ => .inl (by simp)) harr⟩
        | ret => exact ⟨_, a1, w1, hq, .pass (x := .inLoop cx) rfl (fun _ _ => .inl (by simp)) harr⟩
        | panic ch => exact ⟨_, a1, w1, hq, .pass (x := .inLoop cx) rfl (fun _ _ => .inl (by simp)) harr⟩
        | outgrown => exact ⟨_, a1, w1, hq, .pass (x := .inLoop cx) rfl (fun _ _ => .inl (by simp)) harr⟩
    obtain ⟨e, a', w', hq, harr⟩ := key m0 a w ⟨s, G, .refl G w, hR, h0⟩
    exact ⟨e, a', w', hq, .of_steps (.one step_loop) harr⟩
  all_goals first | (simp at hc; done) | (split at hc <;> simp at hc; done) | skip
end
end
section
def opS (TE : TyE) (EQ : TypeId → Bool) (s : AS) (dst : Option Tmp) (op : Op) : AR := opA TE EQ s ⟨dst, op, 0, "", #[], none⟩
theorem opS_eq (TE : TyE) (EQ : TypeId → Bool) (s : AS) (o : Oper) : opA TE EQ s o = opS TE EQ s o.dst o.op := by
  obtain ⟨dst, op, type, pos, after, guard⟩ := o
  rfl
def wantS (o : SOp) (T : Tmps) (yes no : Prop) : Prop :=
  match o.g with
  | none => yes
  | some (none, _) => no
  | some (some t, b) => match T t with
    | .bool c => (c = b → yes) ∧ (c = !b → no)
    | .tup _ => no
    | _ => False
def callP (P : Program) (draw : Bool) (RK : Option (List Nat × (Nat → Bool))) (s : AS) (x : Operand) (args : Array Operand) (Kv Kp : AVal → Mem → Prop) : Prop :=
  ∃ f caps Kf out, ev s.T x = .fn f caps ∧ stbs ((evs s.T args.toList ++ caps).map (fz Kf s.M)) = true ∧ Ev P f ((evs s.T args.toList ++ caps).map (fz Kf s.M)) out ∧
    match out with
    | .ret v => ((draw = true → v.flt = true ∨ Kf = fun _ => false) ∧ (RK.isSome = true → Kf = fun _ => false)) ∧ Kv v (if v.flt = true then s.M else kill Kf s.M)
    | .pan v => draw = false ∧ Kp v (if v.flt = true then s.M else kill Kf s.M)
def callO (P : Program) (draw : Bool) (s : AS) (x : Operand) (args : Array Operand) (Kv : AVal → Mem → Prop) : Prop :=
  draw = false ∧ ∃ f p k e sz xs args' back r ys, ev s.T x = .fn f [] ∧ (evs s.T args.toList)[p]? = some (.os k e) ∧ s.M k = some (.arr e sz xs) ∧ stbs xs = true ∧
    ((evs s.T args.toList).map (fz (fun _ => false) s.M)).set p .undef = args' ∧ stbs args' = true ∧ r.stb = true ∧ stbs ys = true ∧ EvOwn P f args' p sz xs back r ys ∧
    Kv (if back = true then .os k (e + 1) else r) (upd s.M k (some (.arr (backE back e) sz ys)))
def callS (P : Program) (draw : Bool) (RK : Option (List Nat × (Nat → Bool))) (s : AS) (x : Operand) (args : Array Operand) (Kv Kp : AVal → Mem → Prop) : Prop :=
  callP P draw RK s x args Kv Kp ∨ callO P draw s x args Kv
def callK (K : AS → Prop) (T : Tmps) (dst : Option Tmp) (v : AVal) (M' : Mem) : Prop := K (AS.put ⟨T, M'⟩ dst v)
def callQ (Q : Ex → AS → Prop) (T : Tmps) (v : AVal) (M' : Mem) : Prop := Q (.pan v) ⟨T, M'⟩
def stepM (E : Env) (draw : Bool) (RK : Option (List Nat × (Nat → Bool))) (o : SOp) (s : AS) (Q : Ex → AS → Prop) (K : AS → Prop) : Prop :=
  match o.op with
  | .call ⟨.value x, args, _⟩ => callS E.P draw RK s x args (callK K s.T o.dst) (callQ Q s.T)
  | .panic x => match ev s.T x with
    | .iface t v => draw = false ∧ Q (.pan (.iface t v)) s
    | _ => False
  | op => match opS E.TE E.EQ s o.dst op with
    | some (v, ups) => ((draw = true → clsO (RK.map (·.1)) o.dst op = .r → ups = []) ∧ rkOk RK o.dst op s.T = true) ∧ K (AS.put ⟨s.T, ap s.M ups⟩ o.dst v)
    | none => False
def Hook (P : Program) (s : AS) (op : Op) (posts : AVal → Mem → Prop) : Prop :=
  ∀ (n : Nat) (B : Nat → Prop) (G : Gh) (a : Act) (w : World), Rel n B G s a w → ∀ o : Oper, o.op = op → ∀ (K : Act → World → Prop) (Q : Exit → Act → World → Prop),
    (∀ v v' M' w' G', posts v M' → Adv G w G' w' → Rel n B G' ⟨s.T, M'⟩ a w' → VR (Dm M') G' B w' v v' → K (a.put o.dst v') w') → o.wp P a w K Q
def newS (E : Env) (RK : Option (List Nat × (Nat → Bool))) (o : SOp) (s : AS) (K : AS → Prop) : Prop :=
  RK = none ∧ ∃ x args ts f caps cs d, o.op = .call ⟨.value x, args, ts⟩ ∧ ev s.T x = .fn f caps ∧ stbs ((evs s.T args.toList ++ caps).map (fz (fun _ => false) s.M)) = true ∧
    EvNew E.P f ((evs s.T args.toList ++ caps).map (fz (fun _ => false) s.M)) cs ∧ o.dst = some d ∧ s.M d = none ∧ K (AS.put ⟨s.T, upd s.M d (some (.cells cs))⟩ o.dst (.ptr d 0))
def stepS (E : Env) (draw : Bool) (RK : Option (List Nat × (Nat → Bool))) (o : SOp) (s : AS) (Q : Ex → AS → Prop) (K : AS → Prop) : Prop :=
  stepM E draw RK o s Q K ∨ (draw = false ∧ ∃ posts, Hook E.P s o.op posts ∧ ∀ v M', posts v M' → K (AS.put ⟨s.T, M'⟩ o.dst v)) ∨ newS E RK o s K
def awpOps (E : Env) (draw : Bool) (RK : Option (List Nat × (Nat → Bool))) (Q : Ex → AS → Prop) : List SOp → AS → Prop
  | [], s => Q .normal s
  | o :: r, s => wantS o s.T (stepS E draw RK o s Q (awpOps E draw RK Q r)) (awpOps E draw RK Q r (AS.put s o.dst (.tup [])))
section
variable {E : Env} {n : Nat} {Q : Ex → AS → Prop} {s : AS}
theorem pick_bool (p : Prop) [Decidable p] (a b : Bool) : (if p then AVal.bool a else AVal.bool b) = AVal.bool (if p then a else b) := by split <;> rfl
theorem pick_int (p : Prop) [Decidable p] (k : IntKind) (a b : Int) : (if p then AVal.int k a else AVal.int k b) = AVal.int k (if p then a else b) := by split <;> rfl
theorem stepS_cases {draw : Bool} {RK : Option (List Nat × (Nat → Bool))} {o : SOp} {K : AS → Prop} (h : stepS E draw RK o s Q K) :
    (∃ x args ts, o.op = .call ⟨.value x, args, ts⟩ ∧ callS E.P draw RK s x args (callK K s.T o.dst) (callQ Q s.T)) ∨
    (∃ v ups, opS E.TE E.EQ s o.dst o.op = some (v, ups) ∧ ((draw = true → clsO (RK.map (·.1)) o.dst o.op = .r → ups = []) ∧ rkOk RK o.dst o.op s.T = true) ∧ K (AS.put ⟨s.T, ap s.M ups⟩ o.dst v)) ∨
    (∃ x t v, o.op = .panic x ∧ ev s.T x = .iface t v ∧ draw = false ∧ Q (.pan (.iface t v)) s) ∨
    (draw = false ∧ ∃ posts, Hook E.P s o.op posts ∧ ∀ v M', posts v M' → K (AS.put ⟨s.T, M'⟩ o.dst v)) ∨ newS E RK o s K := by
  rcases h with h | h | h
  case inr.inl => exact .inr (.inr (.inr (.inl h)))
  case inr.inr => exact .inr (.inr (.inr (.inr h)))
  unfold stepM at h
  split at h
  · rename_i x args ts ho
    exact .inl ⟨x, args, ts, ho, h⟩
  · rename_i x ho
    split at h
    · rename_i t v hv
      exact .inr (.inr (.inl ⟨x, t, v, ho, hv, h.1, h.2⟩))
    · exact h.elim
  · split at h
    · rename_i v ups hv
      exact .inr (.inl ⟨v, ups, hv, h.1, h.2⟩)
    · exact h.elim
theorem wantS_wantA {ops : Array Oper} {o : Oper} {T : Tmps} {yes no : Prop} (h : wantS (slimOp ops o) T yes no) : (wantA ops o T = some true ∧ yes) ∨ (wantA ops o T = some false ∧ no) := by
  unfold wantS at h
  unfold wantA
  cases hg : o.guard with
  | none => simp only [slimOp, hg] at h ⊢; exact .inl ⟨by trivial, h⟩
  | some jb =>
    obtain ⟨j, b⟩ := jb
    simp only [slimOp, hg] at h ⊢
    cases ht : (ops[j]?).bind (·.dst) with
    | none => simp only [ht] at h ⊢; exact .inr ⟨by trivial, h⟩
    | some t =>
      simp only [ht] at h ⊢
      cases hT : T t <;> simp only [hT] at h ⊢
      case bool c =>
        by_cases hc : c = b
        · exact .inl ⟨by simp [hc], h.1 hc⟩
        · exact .inr ⟨by simp [hc], h.2 (by cases c <;> cases b <;> simp_all)⟩
      case tup cs => exact .inr ⟨by trivial, h⟩
theorem awpOps_lex {RK : Option (List Nat × (Nat → Bool))} {ops : Array Oper} : ∀ (l : List Oper) (s : AS), awpOps E true RK Q (l.map (slimOp ops)) s → lexA E.P E.TE E.EQ RK ops (Q .normal) l s
  | [], s, h => h
  | o :: l, s, h => by
    simp only [List.map_cons, awpOps] at h
    rcases wantS_wantA h with ⟨hw, hy⟩ | ⟨hw, hno⟩
    · rcases stepS_cases hy with ⟨x, args, ts, ho, ⟨f, caps, Kf, out, h1, h2, h3, h4⟩ | ⟨hdr, f, p, k, e, sz, xs, args', back, r, ys, h1, h2, h3, h4, h5, h6, h7, h8, h9, h10⟩⟩ | ⟨v, ups, h1, h2, h3⟩ | ⟨x, t, v, ho, hv, hd, hq⟩ | ⟨hd, posts, hk1, hk2⟩ | ⟨hrk, x, args, ts, f, caps, cs, d, ho, h1, h2, h3, hds, hfr, h4⟩
      · cases out with
        | pan v => exact absurd h4.1 (by simp)
        | ret v =>
          obtain ⟨h4, h5⟩ := h4
          obtain ⟨h4, h4'⟩ := h4
          have h4 := h4 rfl
          have hM : (if v.flt = true then s.M else kill Kf s.M) = s.M := by
            rcases h4 with hk | hk
            · simp [hk]
            · subst hk; simp [kill_none]
          rw [hM] at h5
          exact ⟨v, s.M, .inl (.inl ⟨hw, .inr ⟨Kf, ⟨x, args, ts, f, caps, ho, h1, h2, h3⟩, rfl, h4, h4'⟩⟩), awpOps_lex l _ h5⟩
      · cases hdr
      · exact ⟨v, _, .inl (.inl ⟨hw, .inl ⟨ups, by rw [opS_eq]; exact h1, rfl, h2.1 rfl, h2.2⟩⟩), awpOps_lex l _ h3⟩
      · cases hd
      · cases hd
      · exact ⟨.ptr d 0, _, .inr ⟨d, _, ⟨hw, hrk, hds, hfr, rfl, cs, rfl, x, args, ts, f, caps, ho, h1, h2, h3⟩, rfl⟩, awpOps_lex l _ h4⟩
    · exact ⟨.tup [], s.M, .inl (.inr ⟨hw, rfl, rfl⟩), awpOps_lex l _ hno⟩
theorem awpOps_wp {ops : Array Oper} (hn : dstOk n ops) {B : Nat → Prop} {Q' : Exit → Act → World → Prop} : ∀ (l : List Oper) (k : Nat) (s : AS) (G : Gh) (a : Act) (w : World), (∀ j, l[j]? = ops[k + j]?) → Rel n B G s a w → Post n B G w Q Q' →
    awpOps E false none Q (l.map (slimOp ops)) s → wpOps E.P ops Q' (List.range' k l.length) a w
  | [], k, s, G, a, w, hl, hR, hP, h => by simp only [List.length_nil, List.range'_zero, wpOps]; exact hP .normal _ _ _ _ (.refl G w) hR h
  | o :: l, k, s, G, a, w, hl, hR, hP, h => by
    have h0 : ops[k]? = some o := by simpa using (hl 0).symm
    have hl' : ∀ j, l[j]? = ops[k + 1 + j]? := fun j => by have := hl (j + 1); simpa [Nat.add_assoc, Nat.add_comm 1 j] using this
    simp only [List.length_cons, List.range'_succ, wpOps, h0]
    simp only [List.map_cons, awpOps] at h
    rcases wantS_wantA h with ⟨hw, hy⟩ | ⟨hw, hno⟩
    · rw [if_pos (wantA_ok hR hw)]
      refine .inl ?_
      rcases stepS_cases hy with ⟨x, args, ts, ho, ⟨f, caps, Kf, out, h1, h2, h3, h4⟩ | ⟨hdr, f, p, k, e, sz, xs, args', back, r, ys, h1, h2, h3, h4, h5, h6, h7, h8, h9, h10⟩⟩ | ⟨v, ups, h1, h2, h3⟩ | ⟨x, t, v, ho, hv, hd, hq⟩ | ⟨hd, posts, hk1, hk2⟩ | ⟨hrk, x, args, ts, f, caps, cs, d, ho, h1, h2, h3, hds, hfr, h4⟩
      · refine CallsA.wp (out := out) hR ?_ ⟨x, args, ts, f, caps, ho, h1, h2, h3⟩
        cases out with
        | pan v => exact fun v' w' G' hA hR' hV => hP (.pan v) _ _ _ _ hA hR' h4.2 v' hV
        | ret v => exact fun v' w' G' hA hR' hV => awpOps_wp hn l (k + 1) _ G' _ w' hl' (hR'.put (hn k o h0) hV) (hP.adv hA) h4.2
      · have ho' : o.op = .call ⟨.value x, args, ts⟩ := ho
        obtain ⟨fn, hfn, hnm, hbd⟩ := h9.1.ok
        have hx := hR.ev x
        rw [h1] at hx
        generalize hxv : a.eval x = xv at hx
        cases hx with
        | fn _ _ vs hl0 hh =>
          have hvs : vs = #[] := Array.eq_empty_of_size_eq_zero (by simpa using hl0)
          subst hvs
          have hrun : (execOp a.eval o).run E.P w = .ok (.enter f (args.map a.eval)) w := by
            unfold execOp
            rw [ho']
            have e1 : (fn.name = "runtime.NumGoroutine") = False := by simpa using hnm
            have e2 : (fn.body = none) = False := by simp only [eq_iff_iff, iff_false]; intro hn; rw [hn] at hbd; simp at hbd
            simp [resolve, hxv, Deferred.ofValue, invoke, callFunc, hfn, e1, e2]
          unfold Oper.wp
          rw [hrun]
          simp only [Oper.upon]
          obtain ⟨q1, q2⟩ := args_ok hR args
          refine callOwn_ok hR q1 (fun i y u hy hu => ?_) h2 h3 h4 h5 h6 h7 h8 h9 (fun v' w' G' hA hR' hV => awpOps_wp hn l (_ + 1) _ G' _ w' hl' (hR'.put (hn _ o h0) hV) (hP.adv hA) h10)
          obtain ⟨u', hu', hr'⟩ := q2 i y hy
          rw [hu] at hu'
          exact (Option.some.inj hu') ▸ hr'
      · obtain ⟨r, w', v', G', e1, e2, e3, e4, e5⟩ := opA_ok E.hT E.hE hR (o := o) (by rw [opS_eq]; exact h1)
        unfold Oper.wp
        rw [e1]
        have hgo : wpOps E.P ops Q' (List.range' (k + 1) l.length) (a.put o.dst v') w' := awpOps_wp hn l (k + 1) _ G' _ w' hl' (e4.put (hn k o h0) e5) (hP.adv e3) h3
        rcases e2 with rfl | ⟨rfl, rfl⟩ <;> exact hgo
      · have hx := hR.ev x
        rw [hv] at hx
        generalize hxv : a.eval x = xv at hx
        cases hx with
        | iface _ _ u hu =>
          have hrun : (execOp a.eval o).run E.P w = .halt (.panic (.iface t u)) w := by
            have ho' : o.op = .panic x := ho
            unfold execOp
            rw [ho']
            simp [Instr.panic, hxv, goPanic]
          unfold Oper.wp
          rw [hrun]
          exact hP (.pan (.iface t v)) _ _ _ _ (.refl G w) hR hq _ (.iface t v u hu)
      · exact hk1 n B G a w hR o rfl _ _ fun v v' M' w' G' hp hA hR' hV => awpOps_wp hn l (k + 1) _ G' _ w' hl' (hR'.put (hn k o h0) hV) (hP.adv hA) (hk2 v M' hp)
      · exact CallsN.wp hR hfr (fun v' w' G' hA hR' hV => awpOps_wp hn l (k + 1) _ G' _ w' hl' (hR'.put (hn k o h0) hV) (hP.adv hA) h4) ⟨x, args, ts, f, caps, ho, h1, h2, h3⟩
    · rw [if_neg (by rw [wantA_ok hR hw]; simp)]
      refine awpOps_wp hn l (k + 1) _ G _ w hl' (hR.put (hn k o h0) ?_) hP hno
      exact .tup [] #[] rfl fun n x v hx => by simp at hx
theorem AW.ops {draw : Bool} {l : List SOp} (h : awpOps E draw none Q l s) : AW E n (.ops draw l) Q s := by
  intro c hc B G a w hR Q' hP
  cases c <;> simp only [slim, reduceCtorEq] at hc
  case region id ops d =>
    split at hc
    case isFalse => split at hc <;> simp at hc
    rename_i hb
    simp only [Bool.and_eq_true, Bool.or_eq_true, Bool.not_eq_true'] at hb
    simp only [Option.some.injEq, SC.ops.injEq] at hc
    obtain ⟨rfl, rfl⟩ := hc
    have hn := dstB_ok hb.1
    cases d with
    | false =>
      refine wp_region ?_
      have := awpOps_wp hn ops.toList 0 s G a w (by simp) hR hP h
      rw [List.range_eq_range']
      simpa using this
    | true =>
      exact region_draw_ok (RK := none) E.hm E.hT E.hE hn (by simpa using hb.2) hR (fun s1 a' w' G' hA hR' hq => hP .normal _ _ _ _ hA hR' hq) (awpOps_lex ops.toList s h)
  all_goals first | (simp at hc; done) | (split at hc <;> simp at hc; done) | skip
theorem AW.opsW (K : Nat → Bool) {ws : List Nat} {l : List SOp} (h : awpOps E true (some (ws, K)) Q l s) : AW E n (.opsW ws l) Q s := by
  intro c hc B G a w hR Q' hP
  cases c <;> simp only [slim, reduceCtorEq] at hc
  case region id ops d =>
    split at hc
    case isTrue => simp at hc
    rename_i hno
    split at hc
    case isFalse => simp at hc
    rename_i hb
    simp only [Option.some.injEq, SC.opsW.injEq] at hc
    obtain ⟨rfl, rfl⟩ := hc
    simp only [Bool.and_eq_true] at hb
    have hn := dstB_ok hb.1
    cases d with
    | false => simp [hb.1] at hno
    | true =>
      exact region_draw_ok (RK := some (takenOf ops, K)) E.hm E.hT E.hE hn hb.2 hR (fun s1 a' w' G' hA hR' hq => hP .normal _ _ _ _ hA hR' hq) (awpOps_lex ops.toList s h)
  all_goals first | (simp at hc; done) | (split at hc <;> simp at hc; done) | skip
theorem callS_ret {draw : Bool} {RK : Option (List Nat × (Nat → Bool))} {x : Operand} {args : Array Operand} {Kv Kp : AVal → Mem → Prop} (Kf : Nat → Bool) {f : FuncId} {caps l : List AVal} {v : AVal} (hf : ev s.T x = .fn f caps)
    (hl : (evs s.T args.toList ++ caps).map (fz Kf s.M) = l) (hs : stbs l = true) (he : Ev E.P f l (.ret v)) (hd : (draw = true → v.flt = true ∨ Kf = fun _ => false) ∧ (RK.isSome = true → Kf = fun _ => false))
    (h : Kv v (if v.flt = true then s.M else kill Kf s.M)) : callS E.P draw RK s x args Kv Kp :=
  .inl ⟨f, caps, Kf, .ret v, hf, by rw [hl]; exact hs, by rw [hl]; exact he, hd, h⟩
theorem callS_back {x : Operand} {args : Array Operand} {Kv Kp : AVal → Mem → Prop} (p k : Nat) {f : FuncId} {e sz : Nat} {xs args' ys : List AVal} (hf : ev s.T x = .fn f []) (hp : (evs s.T args.toList)[p]? = some (.os k e))
    (hk : s.M k = some (.arr e sz xs)) (ha : ((evs s.T args.toList).map (fz (fun _ => false) s.M)).set p .undef = args') (hst : stbs args' = true) (hxs : stbs xs = true) (hys : stbs ys = true)
    (he : EvOwn E.P f args' p sz xs true .undef ys) (h : Kv (.os k (e + 1)) (upd s.M k (some (.arr (e + 1) sz ys)))) : callS E.P false none s x args Kv Kp :=
  .inr ⟨rfl, f, p, k, e, sz, xs, args', true, .undef, ys, hf, hp, hk, hxs, ha, hst, rfl, hys, he, h⟩
theorem callS_inplace {x : Operand} {args : Array Operand} {Kv Kp : AVal → Mem → Prop} (p k : Nat) {f : FuncId} {e sz : Nat} {xs args' ys : List AVal} {r : AVal} (hf : ev s.T x = .fn f []) (hp : (evs s.T args.toList)[p]? = some (.os k e))
    (hk : s.M k = some (.arr e sz xs)) (ha : ((evs s.T args.toList).map (fz (fun _ => false) s.M)).set p .undef = args') (hst : stbs args' = true) (hxs : stbs xs = true) (hys : stbs ys = true) (hr : r.stb = true)
    (he : EvOwn E.P f args' p sz xs false r ys) (h : Kv r (upd s.M k (some (.arr e sz ys)))) : callS E.P false none s x args Kv Kp :=
  .inr ⟨rfl, f, p, k, e, sz, xs, args', false, r, ys, hf, hp, hk, hxs, ha, hst, hr, hys, he, h⟩
theorem callS_pure {draw : Bool} {RK : Option (List Nat × (Nat → Bool))} {x : Operand} {args : Array Operand} {Kv Kp : AVal → Mem → Prop} {f : FuncId} {caps l : List AVal} {v : AVal} (hf : ev s.T x = .fn f caps)
    (hl : (evs s.T args.toList ++ caps).map (fz (fun _ => false) s.M) = l) (hs : stbs l = true) (he : Ev E.P f l (.ret v))
    (h : Kv v s.M) : callS E.P draw RK s x args Kv Kp :=
  callS_ret (fun _ => false) hf hl hs he ⟨fun _ => .inr rfl, fun _ => rfl⟩ (by rw [kill_none]; split <;> exact h)
end
end
section
def allK : Nat → Bool := fun _ => true
theorem without_all (G : Gh) (b : Nat) : (G.without allK).ow b = none := by
  simp only [Gh.without, allK]
  cases G.ow b <;> simp
def resOne (TE : TyE) (s : AS) : ResultVar → Option AVal
  | .tmp t => some (fz allK s.M (s.T t))
  | .cell a t =>
    match TE t, s.T a with
    | some i, .ptr k off =>
      match s.M k with
      | some (.cells cs) =>
        if i.td.isAgg = true then (if off + i.size ≤ cs.length then some (.agg (((cs.drop off).take i.size).map (fzc allK s.M))) else none)
        else (match cs[off]? with | some x => some (fzc allK s.M x) | none => none)
      | _ => none
    | _, _ => none
def resAll (TE : TyE) (s : AS) : List ResultVar → Option (List AVal)
  | [] => some []
  | r :: rs => match resOne TE s r, resAll TE s rs with | some x, some xs => some (x :: xs) | _, _ => none
def outOf : List AVal → AVal
  | [x] => x
  | xs => .tup xs
def sub1 (x y : AVal) : Prop := x = y ∨ (x = .nil ∧ ∃ sz, y = .sl sz [])
def subs : List AVal → List AVal → Prop
  | [], [] => True
  | x :: l, y :: m => sub1 x y ∧ subs l m
  | _, _ => False
theorem subs_refl : ∀ l : List AVal, subs l l
  | [] => trivial
  | x :: l => ⟨.inl rfl, subs_refl l⟩
theorem subs_len : ∀ {l m : List AVal}, subs l m → l.length = m.length
  | [], [], _ => rfl
  | x :: l, y :: m, h => by simp [subs_len h.2]
  | [], _ :: _, h => h.elim
  | _ :: _, [], h => h.elim
theorem subs_get : ∀ {l m : List AVal}, subs l m → ∀ {i : Nat} {y : AVal}, m[i]? = some y → ∃ x, l[i]? = some x ∧ sub1 x y
  | x :: l, y :: m, h, 0, z, hz => by simp at hz; subst hz; exact ⟨x, rfl, h.1⟩
  | x :: l, y :: m, h, i + 1, z, hz => by simpa using subs_get h.2 (by simpa using hz)
  | [], [], _, i, z, hz => by simp at hz
  | [], _ :: _, h, _, _, _ => h.elim
  | _ :: _, [], h, _, _, _ => h.elim
theorem sub1_stb {x y : AVal} (h : sub1 x y) (hs : x.stb = true) : y.stb = true := by
  rcases h with rfl | ⟨rfl, sz, rfl⟩
  · exact hs
  · rfl
theorem subs_stb : ∀ {l m : List AVal}, subs l m → stbs l = true → stbs m = true
  | [], [], _, h => h
  | x :: l, y :: m, h, hs => by
    simp only [stbs, Bool.and_eq_true] at hs ⊢
    exact ⟨sub1_stb h.1 hs.1, subs_stb h.2 hs.2⟩
  | [], _ :: _, h, _ => h.elim
  | _ :: _, [], h, _ => h.elim
theorem sub1_VR {D : Nat → Nat → Prop} {G : Gh} {B : Nat → Prop} {w : World} {x y : AVal} {v : Value} (h : sub1 x y) (hv : VR D G B w x v) : VR D G B w y v := by
  rcases h with rfl | ⟨rfl, sz, rfl⟩
  · exact hv
  · cases hv; exact .slnil sz
def FnQ (TE : TyE) (rs : List ResultVar) (out : Out) : Ex → AS → Prop
  | .normal, s => ∃ xs, resAll TE s rs = some xs ∧ stbs xs = true ∧ ∃ ys, subs xs ys ∧ out = .ret (outOf ys)
  | .ret, s => ∃ xs, resAll TE s rs = some xs ∧ stbs xs = true ∧ ∃ ys, subs xs ys ∧ out = .ret (outOf ys)
  | .pan x, s => (fz allK s.M x).stb = true ∧ out = .pan (fz allK s.M x)
  | .exit _, _ => False
section
variable {P : Program} {TE : TyE}
theorem resOne_ok (hT : TyOk P TE) {n : Nat} {B : Nat → Prop} {G : Gh} {s : AS} {a : Act} {w : World} (h : Rel n B G s a w) {r : ResultVar} {x : AVal} (hr : resOne TE s r = some x) :
    ∃ v, (match r with | .tmp t => pure (a.tmps.getD t undef) | .cell c t => do loadVar t (← asAddr (a.tmps.getD c undef)) : Sem Value).run P w = .ok v w ∧ VR (Dm s.M) (G.without allK) B w x v := by
  cases r with
  | tmp t =>
    simp only [resOne, Option.some.injEq] at hr
    subst hr
    exact ⟨a.tmps.getD t undef, rfl, fz_ok h.mem (h.temps t)⟩
  | cell c t =>
    simp only [resOne] at hr
    have hx := h.temps c
    cases hi : TE t with
    | none => simp [hi] at hr
    | some i =>
      cases hc : s.T c <;> simp only [hi, hc, reduceCtorEq] at hr
      rename_i k off
      rw [hc] at hx
      dsimp only
      generalize a.tmps.getD c undef = av at hx ⊢
      cases hx with
      | ptr _ _ hD =>
        cases hm : s.M k with
        | none => simp [hm] at hr
        | some blk =>
          cases blk <;> simp only [hm, reduceCtorEq] at hr
          rename_i cs
          obtain ⟨cc, el, b1, b2, b3, b4, b5⟩ := h.mem k _ hm
          cases ha : i.td.isAgg
          · simp only [ha, Bool.false_eq_true, if_false] at hr
            cases hy : cs[off]? with
            | none => simp [hy] at hr
            | some y =>
              simp only [hy, Option.some.injEq] at hr
              subst hr
              obtain ⟨u, hu, hru⟩ := b5 off y hy
              have := run_loadVar' hT hi (G.β k) off (fun _ => u) w (fun j hj => by
                have : j = 0 := by simpa [ha] using hj
                subst this
                rw [cell_at b3]
                simpa using hu)
              simp only [ha, Bool.false_eq_true, if_false] at this
              exact ⟨u, by simp [asAddr, this], fzc_cell h.mem rfl hru⟩
          · simp only [ha, if_true] at hr
            split at hr
            case isFalse => simp at hr
            rename_i hle
            simp only [Option.some.injEq] at hr
            subst hr
            have hrun := run_loadVar' hT hi (G.β k) off (fun j => cc.getD (off + j) undef) w (fun j hj => by
              simp only [ha, if_true] at hj
              have hlt : off + j < cs.length := by omega
              obtain ⟨u, hu, hr⟩ := b5 (off + j) cs[off + j] (List.getElem?_eq_getElem hlt)
              rw [cell_at b3, hu]
              simp [hu])
            simp only [ha, if_true] at hrun
            refine ⟨.agg ((List.range i.size).map fun j => cc.getD (off + j) undef).toArray, by simp [asAddr, hrun], .agg _ _ (by simp; omega) fun m x v hx hv => ?_⟩
            have hmn : m < i.size := by
              rcases Nat.lt_or_ge m i.size with h' | h'
              · exact h'
              · rw [List.getElem?_eq_none (by simp; omega)] at hx; cases hx
            simp only [List.getElem?_map, List.getElem?_take, hmn, if_true, List.getElem?_drop] at hx
            cases hq : cs[off + m]? with
            | none => simp [hq] at hx
            | some y =>
              simp only [hq, Option.map_some, Option.some.injEq] at hx
              subst hx
              obtain ⟨u, hu, hru⟩ := b5 _ _ hq
              have : v = u := by
                have e : ((List.range i.size).map fun j => cc.getD (off + j) undef)[m]? = some u := by simp [hmn, hu]
                rw [List.getElem?_toArray, e] at hv
                exact (Option.some.inj hv).symm
              rw [this]
              exact fzc_cell h.mem rfl hru
theorem resAll_ok (hT : TyOk P TE) {n : Nat} {B : Nat → Prop} {G : Gh} {s : AS} {a : Act} {w : World} (h : Rel n B G s a w) : ∀ {rs : List ResultVar} {xs : List AVal}, resAll TE s rs = some xs →
    ∃ vs : List Value, (rs.mapM (fun r => match r with | .tmp t => pure (a.tmps.getD t undef) | .cell c t => do loadVar t (← asAddr (a.tmps.getD c undef)) : ResultVar → Sem Value)).run P w = .ok vs w ∧ vs.length = xs.length ∧
      ∀ (i : Nat) (x : AVal) (v : Value), xs[i]? = some x → vs[i]? = some v → VR (Dm s.M) (G.without allK) B w x v
  | [], xs, hr => by
    simp only [resAll, Option.some.injEq] at hr
    subst hr
    exact ⟨[], by simp, rfl, fun i x v hx => by simp at hx⟩
  | r :: rs, xs, hr => by
    simp only [resAll] at hr
    cases h1 : resOne TE s r with
    | none => simp [h1] at hr
    | some x =>
      cases h2 : resAll TE s rs with
      | none => simp [h1, h2] at hr
      | some ys =>
        simp only [h1, h2, Option.some.injEq] at hr
        subst hr
        obtain ⟨v, e1, e2⟩ := resOne_ok hT h h1
        obtain ⟨vs, f1, f2, f3⟩ := resAll_ok hT h h2
        refine ⟨v :: vs, ?_, by simp [f2], fun i y u hy hu => ?_⟩
        · rw [List.mapM_cons]
          simp only [Sem.run_bind, e1, Result.andThen, f1, Sem.run_pure]
        · cases i with
          | zero =>
            simp only [List.getElem?_cons_zero, Option.some.injEq] at hy hu
            subst hy; subst hu
            exact e2
          | succ i => exact f3 i y u (by simpa using hy) (by simpa using hu)
theorem results_ok (hT : TyOk P TE) {n : Nat} {B : Nat → Prop} {G : Gh} {s : AS} {a : Act} {w : World} (h : Rel n B G s a w) {fn : Func} {xs ys : List AVal} (hr : resAll TE s fn.results.toList = some xs) (hsub : subs xs ys) :
    ∃ v, (results fn a.tmps).run P w = .ok v w ∧ VR (Dm s.M) (G.without allK) B w (outOf ys) v := by
  obtain ⟨vs, e1, e2, e3⟩ := resAll_ok hT h hr
  have e3' : ∀ (i : Nat) (y : AVal) (v : Value), ys[i]? = some y → vs[i]? = some v → VR (Dm s.M) (G.without allK) B w y v := fun i y v hy hv => by
    obtain ⟨x, hx, hs⟩ := subs_get hsub hy
    exact sub1_VR hs (e3 i x v hx hv)
  rw [subs_len hsub] at e2
  replace e3 := e3'
  have hm : (fn.results.mapM (fun r => match r with | .tmp t => pure (a.tmps.getD t undef) | .cell c t => do loadVar t (← asAddr (a.tmps.getD c undef)) : ResultVar → Sem Value)).run P w = .ok vs.toArray w := by
    rw [Array.mapM_eq_mapM_toList]
    simp only [Sem.run_map, e1, Result.andThen]
  refine ⟨if h : vs.toArray.size = 1 then vs.toArray[0] else .tuple vs.toArray, ?_, ?_⟩
  · unfold results
    simp only [Sem.run_bind]
    refine Eq.trans (congrArg (fun r => Result.andThen r _) hm) ?_
    simp [Result.andThen]
  · clear e3' hr hsub e1 hm
    match ys, vs, e2 with
    | [], [], _ => exact .tup [] _ rfl fun n x v hx => by simp at hx
    | [x], [v], _ => exact e3 0 x v rfl rfl
    | x :: y :: l, v :: u :: l', e2 =>
      simp only [List.size_toArray, List.length_cons, Nat.reduceEqDiff, Nat.add_eq_zero_iff, Nat.succ_ne_self, and_false, dite_false, outOf]
      exact .tup _ _ (by simp; simpa using e2) fun n x v hx hv => e3 n x v hx (by simpa using hv)
end
def initT (args : List AVal) : Tmps := fun t => (args[t]?).getD .undef
def FnIs (P : Program) (f : FuncId) (n : Nat) (rs : List ResultVar) (sc : SC) : Prop :=
  ∃ fn c, P.funcs[f]? = some fn ∧ (fn.name == "runtime.NumGoroutine") = false ∧ fn.body = some c ∧ fn.ntmps = n ∧ fn.results.toList = rs ∧ slim n c = some sc
theorem Ev.of_body {E : Env} {f : FuncId} {n : Nat} {rs : List ResultVar} {sc : SC} (hf : FnIs E.P f n rs sc) {args : List AVal} {out : Out} (hl : args.length ≤ n)
    (h : AW E n sc (FnQ E.TE rs out) ⟨initT args, NoM⟩) : Ev E.P f args out := by
  obtain ⟨fn, c, h1, h2, h3, rfl, rfl, h6⟩ := hf
  refine ⟨⟨fn, h1, h2, by simp [h3]⟩, fun B w vs G hG hsz hv hB => ?_⟩
  refine calls_of_wp h1 h3 ?_
  have hR : Rel fn.ntmps B G ⟨initT args, NoM⟩ { tmps := vs ++ Array.replicate (fn.ntmps - vs.size) undef, defers := [] } w := by
    refine ⟨by simp; omega, rfl, fun t => ?_, fun k blk hk => by simp [NoM] at hk, fun b hb => ⟨hB b hb, hG b⟩, fun b hb => absurd (hG b) hb⟩
    simp only [initT]
    cases ht : args[t]? with
    | none => exact .undef _
    | some x =>
      have hlt : t < vs.size := by
        rw [hsz]
        rcases Nat.lt_or_ge t args.length with h' | h'
        · exact h'
        · rw [List.getElem?_eq_none h'] at ht; cases ht
      have : (vs ++ Array.replicate (fn.ntmps - vs.size) undef).getD t undef = vs[t] := by
        rw [Array.getD_eq_getD_getElem?, Array.getElem?_append_left hlt]
        simp [hlt]
      simp only [Option.getD_some, this]
      exact hv t x _ ht (by simp [hlt])
  refine h c h6 B G _ w hR _ fun e s a' w' G' hA hR' hq => ?_
  have hA' : Adv G w (G'.without allK) w' := ⟨hA.os, hA.tape, hA.output, hA.size, fun b hb ho => ⟨(hA.keep b hb ho).1, without_all G' b⟩⟩
  have hfin : ∀ {x : AVal} {v : Value}, x.stb = true → VR (Dm s.M) (G'.without allK) B w' x v → VR (Dm NoM) (G'.without allK) B w' x v := fun hs hx =>
    hx.stable (fun b _ hn _ => ⟨rfl, hn, without_all G' b⟩) hs
  have hret : ∀ xs ys, resAll E.TE s fn.results.toList = some xs → stbs xs = true → subs xs ys → ∃ v, (results fn a'.tmps).run E.P w' = .ok v w' ∧ VR (Dm NoM) (G'.without allK) B w' (outOf ys) v := by
    intro xs ys hx hs hsub
    obtain ⟨v, e1, e2⟩ := results_ok E.hT hR' hx hsub
    refine ⟨v, e1, hfin ?_ e2⟩
    have hs := subs_stb hsub hs
    clear e2 hsub hx
    match ys, hs with
    | [], _ => rfl
    | [x], hs => simp only [stbs, Bool.and_true] at hs; exact hs
    | x :: y :: l, hs => exact hs
  cases e with
  | normal =>
    obtain ⟨xs, hx, hs, ys, hsub, rfl⟩ := hq
    obtain ⟨v, e1, e2⟩ := hret xs ys hx hs hsub
    exact ⟨hR'.defers, v, e1, G'.without allK, v, without_all G', hA', rfl, e2⟩
  | ret =>
    obtain ⟨xs, hx, hs, ys, hsub, rfl⟩ := hq
    obtain ⟨v, e1, e2⟩ := hret xs ys hx hs hsub
    exact ⟨hR'.defers, v, e1, G'.without allK, v, without_all G', hA', rfl, e2⟩
  | exit id => exact hq.elim
  | pan x =>
    intro v' hV
    obtain ⟨hs, rfl⟩ := hq
    exact ⟨hR'.defers, G'.without allK, v', without_all G', hA', rfl, hfin hs (fz_ok hR'.mem hV)⟩
end
def tyI (P : Program) (t : TypeId) : Option TyI :=
  match P.underlying t, P.info? t with
  | some d, some inf => match inf.zero with
    | some z => some ⟨TD.of d, inf.size, inf.bytes, z⟩
    | none => none
  | _, _ => none
def tyOf (l : List (Nat × TyI)) : TyE := fun t => (l.find? fun p => p.1 == t).map (·.2)
theorem tyOk_of {P : Program} {l : List (Nat × TyI)} (h : l.map (fun p => tyI P p.1) = l.map (fun p => some p.2)) (hz : l.all (fun p => p.2.zero.cells.size == p.2.size) = true) : TyOk P (tyOf l) := by
  intro t i ht
  simp only [tyOf, Option.map_eq_some_iff] at ht
  obtain ⟨p, hp, rfl⟩ := ht
  have hm := List.mem_of_find?_eq_some hp
  have he : p.1 = t := by simpa using List.find?_some hp
  have h1 : tyI P p.1 = some p.2 := by
    obtain ⟨n, hn, rfl⟩ := List.getElem_of_mem hm
    have := congrArg (fun l => l[n]?) h
    simpa [hn] using this
  have h2 := List.all_eq_true.1 hz p hm
  subst he
  unfold tyI at h1
  cases hu : P.underlying p.1 with
  | none => simp [hu] at h1
  | some d =>
    cases hq : P.info? p.1 with
    | none => simp [hu, hq] at h1
    | some inf =>
      cases hr : inf.zero with
      | none => simp [hu, hq, hr] at h1
      | some z =>
        simp only [hu, hq, hr, Option.some.injEq] at h1
        rw [← h1] at h2 ⊢
        exact ⟨d, inf, rfl, rfl, rfl, rfl, rfl, hr, by simpa using h2⟩
def eqChk (P : Program) (t : TypeId) : Bool := !P.stoodInHeld t && !P.eqGuardType P.depth t && (P.fieldsOf t).toList.all fun f => f.name != "_"
theorem eqOk_of {P : Program} {l : List Nat} (h : l.all (eqChk P) = true) : ∀ t, l.contains t = true → EqOk P t := by
  intro t ht
  have := List.all_eq_true.1 h t (by simpa using ht)
  simp only [eqChk, Bool.and_eq_true, Bool.not_eq_true'] at this
  refine ⟨this.1.1, this.1.2, fun f hf hn => ?_⟩
  have := List.all_eq_true.1 this.2 f hf
  simp [hn] at this
theorem Wk.temps {n : Nat} {T T' : Tmps} {M : Mem} (h : ∀ t, T' t = T t ∨ T' t = .undef) : Wk n ⟨T, M⟩ ⟨T', M⟩ := fun B G a w hR =>
  ⟨G, ⟨hR.size, hR.defers, fun t => by
    show VR (Dm M) G B w (T' t) (a.tmps.getD t undef)
    rcases h t with e | e <;> rw [e]
    · exact hR.temps t
    · exact .undef _, hR.mem, hR.fr, hR.ol⟩, .refl G w⟩
def AVal.no (K : Nat → Bool) (x : AVal) : Bool :=
  match x with
  | .ptr k _ => !K k
  | .os k _ => !K k
  | .eptr k _ _ _ _ => !K k
  | .vw k _ _ _ _ => !K k
  | x => x.stb
theorem VR.drop {K : Nat → Bool} {M : Mem} {G : Gh} {B : Nat → Prop} {w : World} {x : AVal} {v : Value} (h : VR (Dm M) G B w x v) (hn : x.no K = true) :
    VR (Dm fun k => if K k = true then none else M k) (G.without K) B w x v := by
  have hD : ∀ k e, K k = false → Dm M k e → Dm (fun k => if K k = true then none else M k) k e := fun k e hk hd => by
    simpa [Dm, hk] using hd
  cases x <;> simp only [AVal.no, Bool.not_eq_true'] at hn
  case ptr k off => cases h with | ptr _ _ hd => exact .ptr k off (hD _ _ hn hd)
  case os k e => cases h with | os _ _ hd v hv => exact .os k e (hD _ _ hn hd) v hv
  case vw k e sz i m => cases h with | vw _ _ _ _ _ b o len cap hd hh hm => exact .vw k e sz i m b o len cap (hD _ _ hn hd) hh hm
  case eptr k e sz i off => cases h with | eptr _ _ _ _ _ b o len cap hd hh => exact .eptr k e sz i off b o len cap (hD _ _ hn hd) hh
  all_goals exact h.stable (fun b _ hb ho => ⟨rfl, hb, without_none ho⟩) hn
def AVal.noC (K : Nat → Bool) : AVal → Bool
  | .own _ xs => (flat xs).all fun y => y.no K
  | .hole => true
  | .ref _ => false
  | x => x.no K
theorem CellRel.drop {K : Nat → Bool} {M : Mem} {G : Gh} {B : Nat → Prop} {w : World} {k i : Nat} {x : AVal} {v : Value} (hk : K k = false) (h : CellRel (Dm M) G B w k i x v)
    (hn : x.noC K = true) :
    CellRel (Dm fun k => if K k = true then none else M k) (G.without K) B w k i x v := by
  have hkey : ∀ b, G.ow b = some (.cell k i) → (G.without K).ow b = some (.cell k i) := fun b hb => by simp [Gh.without, hb, OKey.of, hk]
  cases x <;> first | exact VR.drop h hn | exact trivial | (simp [AVal.noC] at hn; done) | skip
  case own sz xs =>
    rcases h with h | ⟨b, o, cap, c, el, h1, h2, h3, h4, h5, h6, h7, h7', h8⟩
    · exact .inl h
    · exact .inr ⟨b, o, cap, c, el, h1, h2, hkey b h3, h4, h5, h6, h7, h7', fun n y hy => let ⟨u, hu, hr⟩ := h8 n y hy; ⟨u, hu, hr.drop (List.all_eq_true.1 hn y (List.mem_of_getElem? hy))⟩⟩
def ABlk.no (K : Nat → Bool) : ABlk → Bool
  | .cells cs => cs.all fun x => x.noC K
  | .arr _ _ xs => (flat xs).all fun y => y.no K
  | .dead => true
theorem Wk.drop {n : Nat} {T : Tmps} {M M' : Mem} (K : Nat → Bool) (hT : ∀ t, (T t).no K = true) (hM : ∀ k blk, K k = false → M k = some blk → blk.no K = true) (hM' : M' = fun k => if K k = true then none else M k) : Wk n ⟨T, M⟩ ⟨T, M'⟩ := by
  subst hM'
  intro B G a w hR
  refine ⟨G.without K, ⟨hR.size, hR.defers, fun t => (hR.temps t).drop (hT t), fun k blk hk => ?_, fun b hb => ⟨(hR.fr b hb).1, without_none (hR.fr b hb).2⟩, fun b hb => hR.ol b fun hn => hb (without_none hn)⟩,
    ⟨⟨rfl, Nat.le_refl _⟩, rfl, rfl, Nat.le_refl _, fun b _ ho => ⟨rfl, without_none ho⟩⟩⟩
  by_cases hK : K k = true
  · simp [hK] at hk
  · have hK' : K k = false := by simpa using hK
    simp only [hK', Bool.false_eq_true, if_false] at hk
    have hb := hM k blk hK' hk
    have h0 := hR.mem k blk hk
    cases blk with
    | cells cs =>
      obtain ⟨c, el, b1, b2, b3, b4, b5⟩ := h0
      refine ⟨c, el, by simp [Gh.without, b1, OKey.of, hK'], b2, b3, b4, fun i x hx => ?_⟩
      obtain ⟨u, hu, hr⟩ := b5 i x hx
      exact ⟨u, hu, hr.drop hK' (List.all_eq_true.1 hb x (List.mem_of_getElem? hx))⟩
    | arr e sz xs =>
      rcases h0 with h | ⟨b, o, cap, c, el, h1, h2, h3, h4, h5, h6, h7, h7', h8⟩
      · exact .inl h
      · exact .inr ⟨b, o, cap, c, el, h1, h2, by simp [Gh.without, h3, OKey.of, hK'], h4, h5, h6, h7, h7', fun n y hy => let ⟨u, hu, hr⟩ := h8 n y hy; ⟨u, hu, hr.drop (List.all_eq_true.1 hb y (List.mem_of_getElem? hy))⟩⟩
    | dead => trivial

def Ex.andThen (next : (Ex → AS → Prop) → AS → Prop) (Q : Ex → AS → Prop) : Ex → AS → Prop
  | .normal, s => next Q s
  | e, s => Q e s

def FnB (p sz : Nat) (t : Tmp) (ys : List AVal) : Ex → AS → Prop
  | .normal, s => ∃ e, s.T t = .os p e ∧ s.M p = some (.arr e sz ys) ∧ stbs ys = true
  | .ret, s => ∃ e, s.T t = .os p e ∧ s.M p = some (.arr e sz ys) ∧ stbs ys = true
  | _, _ => False
def initO (args : List AVal) (p sz : Nat) (xs : List AVal) : AS := ⟨upd (initT args) p (.os p 0), upd NoM p (some (.arr 0 sz xs))⟩
theorem EvOwn.of_body {E : Env} {f : FuncId} {n : Nat} {t : Tmp} {sc : SC} (hf : FnIs E.P f n [.tmp t] sc) {args : List AVal} {p sz : Nat} {xs ys : List AVal} (hl : args.length ≤ n)
    (h : AW E n sc (FnB p sz t ys) (initO args p sz xs)) : EvOwn E.P f args p sz xs true .undef ys := by
  obtain ⟨fn, c, h1, h2, h3, rfl, h5, h6⟩ := hf
  refine ⟨⟨fn, h1, h2, by simp [h3]⟩, fun B w vs G hG hsz hv hvp hB hol => ?_⟩
  obtain ⟨vp, hvp, hown⟩ := hvp
  have hpl : p < vs.size := by
    rcases Nat.lt_or_ge p vs.size with h' | h'
    · exact h'
    · rw [Array.getElem?_eq_none h'] at hvp; cases hvp
  refine calls_of_wp h1 h3 ?_
  let G0 : Gh := G.setHd p 0 vp hown.one G.ow
  have hD : Dm (upd NoM p (some (.arr 0 sz xs))) p 0 := by simp [Dm, upd_same]
  have hmono : ∀ {x : AVal} {u : Value}, VR (Dm NoM) G B w x u → VR (Dm (upd NoM p (some (.arr 0 sz xs)))) G0 B w x u := fun hr =>
    VR.mono (D := Dm NoM) (G := G) (G' := G0) (w := w) (w' := w) (B := B) (fun _ _ h => absurd h NoM_D) (fun _ _ h => absurd h NoM_D) (fun b _ hn ho => ⟨rfl, hn, ho⟩) hr
  have hR : Rel fn.ntmps B G0 (initO args p sz xs) { tmps := vs ++ Array.replicate (fn.ntmps - vs.size) undef, defers := [] } w := by
    have hget : ∀ t, t < vs.size → (vs ++ Array.replicate (fn.ntmps - vs.size) undef).getD t undef = vs.getD t undef := fun t ht => by
      rw [Array.getD_eq_getD_getElem?, Array.getElem?_append_left ht, Array.getD_eq_getD_getElem?]
    refine ⟨by simp; omega, rfl, fun t => ?_, fun k blk hk => ?_, hB, hol⟩
    · simp only [initO]
      by_cases htp : t = p
      · subst htp
        rw [upd_same]
        refine .os _ 0 hD _ ?_
        rw [hget _ hpl, Array.getD_eq_getD_getElem?, hvp]
        exact setHd_hd.symm
      · rw [upd_ne _ _ htp]
        simp only [initT]
        cases ht : args[t]? with
        | none => exact .undef _
        | some x =>
          have hlt : t < vs.size := by
            rw [hsz]
            rcases Nat.lt_or_ge t args.length with h' | h'
            · exact h'
            · rw [List.getElem?_eq_none h'] at ht; cases ht
          simp only [Option.getD_some]
          rw [hget t hlt, Array.getD_eq_getD_getElem?]
          have e : vs[t]? = some vs[t] := by simp [hlt]
          rw [e]
          exact hmono (hv t x _ htp ht e)
    · simp only [initO] at hk
      by_cases hkp : k = p
      · subst hkp
        simp only [upd_same, Option.some.injEq] at hk
        subst hk
        show OwnAt _ G0 B w (.arr k) sz xs (G0.hd k 0)
        rw [show G0.hd k 0 = vp from setHd_hd]
        exact OwnAt.trade (D := Dm NoM) (G := G) (B := B) (fun b hb ho => ⟨hb, ho⟩) (fun x _ u hr => hmono hr) hown
      · rw [upd_ne _ _ hkp] at hk
        simp [NoM] at hk
  have hA0 : Adv G w G0 w := ⟨⟨rfl, Nat.le_refl _⟩, rfl, rfl, Nat.le_refl _, fun b hb ho => ⟨rfl, ho⟩⟩
  refine h c h6 B G0 _ w hR _ fun e s a' w' G' hA hR' hq => ?_
  have hret : ∀ e, s.T t = .os p e → s.M p = some (.arr e sz ys) → stbs ys = true → a'.defers = [] ∧ ∃ v, (results fn a'.tmps).run E.P w' = .ok v w' ∧ ∃ (G1 : Gh) (v' u : Value), Ending.returned v = .returned v' ∧ (∀ b key, G1.ow b = some key → key = .arr p) ∧
      (∀ b, G1.ow b ≠ none → b < w'.heap.size) ∧ Adv G w G1 w' ∧ OwnAt (Dm NoM) G1 B w' (.arr p) sz ys u ∧ (true = true → v' = u) ∧ (true = false → vs[p]? = some u ∧ VR (Dm NoM) G1 B w' .undef v') := by
    intro e e1 e2 e3
    let G1 : Gh := { G' with ow := fun b => if G'.ow b = some (.arr p) then some (.arr p) else none }
    have hv := hR'.temps t
    rw [e1] at hv
    have hval : a'.tmps.getD t undef = G'.hd p e := by generalize a'.tmps.getD t undef = q at hv; cases hv with | os _ _ _ v hv => exact hv
    have hb : OwnAt (Dm s.M) G' B w' (.arr p) sz ys (G'.hd p e) := hR'.mem p _ e2
    refine ⟨hR'.defers, G'.hd p e, ?_, G1, G'.hd p e, G'.hd p e, rfl, fun b key hk => ?_, fun b hb' => ?_, ?_, ?_, fun _ => rfl, fun hh => by cases hh⟩
    · have hr : fn.results = #[.tmp t] := by rw [← Array.toList_inj]; simpa using h5
      unfold results
      rw [hr]
      simp only [Sem.run_bind]
      simp [← hval, Array.mapM_eq_mapM_toList]
    · simp only [G1] at hk
      split at hk
      · exact (Option.some.inj hk).symm
      · cases hk
    · refine hR'.ol b fun hn => hb' ?_
      simp [G1, hn]
    · have hA1 := hA0.trans hA
      exact ⟨hA1.os, hA1.tape, hA1.output, hA1.size, fun b hb ho => ⟨(hA1.keep b hb ho).1, by simp [G1, (hA1.keep b hb ho).2]⟩⟩
    · refine hb.trade (fun b hb ho => ⟨hb, by simp [G1, ho]⟩) (fun x hx u hr => ?_)
      exact hr.stable (fun b _ hn ho => ⟨rfl, hn, by simp [G1, ho]⟩) (stbs_flat e3 x hx)
  cases e with
  | normal => obtain ⟨e, e1, e2, e3⟩ := hq; exact hret e e1 e2 e3
  | ret => obtain ⟨e, e1, e2, e3⟩ := hq; exact hret e e1 e2 e3
  | exit id => exact hq.elim
  | pan x => exact hq.elim
theorem Wk.own_nil {n : Nat} {T : Tmps} {M : Mem} (t k sz : Nat) (ht : T t = .nil) (hk : M k = none) : Wk n ⟨T, M⟩ ⟨upd T t (.os k 0), upd M k (some (.arr 0 sz []))⟩ := by
  intro B G a w hR
  obtain ⟨G', hA, hR', hh⟩ := hR.nil_arr (k := k) (e := 0) (.inl hk) sz
  refine ⟨G', ⟨hR'.size, hR'.defers, fun u => ?_, hR'.mem, hR'.fr, hR'.ol⟩, hA⟩
  show VR _ G' B w (upd T t (.os k 0) u) _
  by_cases hu : u = t
  · subst hu
    rw [upd_same]
    have hv := hR.temps u
    simp only [ht] at hv
    refine .os k 0 (by simp [Dm, upd_same]) _ ?_
    rw [hh]
    generalize a.tmps.getD u undef = q at hv
    cases hv
    rfl
  · rw [upd_ne _ _ hu]
    exact hR'.temps u
theorem Wk.view {n : Nat} {T : Tmps} {M : Mem} (t k e sz : Nat) {xs : List AVal} (ht : T t = .os k e) (hk : M k = some (.arr e sz xs)) (h0 : 0 < xs.length) : Wk n ⟨T, M⟩ ⟨upd T t (.vw k e sz 0 xs.length), M⟩ := by
  intro B G a w hR
  refine ⟨G, ⟨hR.size, hR.defers, fun u => ?_, hR.mem, hR.fr, hR.ol⟩, .refl G w⟩
  show VR _ G B w (upd T t (.vw k e sz 0 xs.length) u) _
  by_cases hu : u = t
  · subst hu
    rw [upd_same]
    have hv := hR.temps u
    simp only [ht] at hv
    generalize a.tmps.getD u undef = q at hv
    cases hv with
    | os _ _ hD _ hv =>
      have hown := hR.mem k _ hk
      simp only [BlkRel] at hown
      rcases hown with ⟨_, rfl⟩ | ⟨b, o, cap, c, el, h1, h2, h3, h4, h5, h6, h7, h7', h8⟩
      · simp at h0
      · rw [hv, h1]
        have := VR.vw (D := Dm M) (G := G) (B := B) (w := w) k e sz 0 xs.length b o xs.length cap hD h1 ⟨by omega, h2⟩
        simpa using this
  · rw [upd_ne _ _ hu]
    exact hR.temps u
theorem Wk.unview {n : Nat} {T : Tmps} {M : Mem} (t k e sz m : Nat) {xs : List AVal} (ht : T t = .vw k e sz 0 m) (hk : M k = some (.arr e sz xs)) (hm : m ≤ xs.length) :
    Wk n ⟨T, M⟩ ⟨upd T t (.os k (e + 1)), upd M k (some (.arr (e + 1) sz (xs.take m)))⟩ := by
  intro B G a w hR
  have hv := hR.temps t
  simp only [ht] at hv
  generalize hq : a.tmps.getD t undef = q at hv
  cases hv with
  | vw _ _ _ _ _ b o len cap hD hh hn =>
    have hown := hR.mem k _ hk
    simp only [BlkRel] at hown
    rcases hown with ⟨hn', _⟩ | ⟨b', o', cap', c, el, h1, h2, h3, h4, h5, h6, h7, h7', h8⟩
    · rw [hh] at hn'; cases hn'
    · rw [hh] at h1
      simp only [Value.slice.injEq, Option.some.injEq, Addr.mk.injEq] at h1
      obtain ⟨⟨rfl, rfl, _⟩, rfl, rfl⟩ := h1
      have hself : w.setRow b c = w := setRow_self w b c el (0, 0) h5
      obtain ⟨G', hA, hR', hh'⟩ := hR.set_arr hk hh (e + 1) o (.inl rfl) (xs.take m) (fun h => by omega) cap (by simp; omega) (fun h => by omega) h5 h3 c h6
        (fun z hz => h7 z (List.mem_of_mem_take hz)) (fun z hz => by rw [flat_take h7] at hz; exact h7' z (List.mem_of_mem_take hz)) (fun i x hx => by
          rw [flat_take h7, List.getElem?_take] at hx
          split at hx
          · exact h8 i x hx
          · cases hx)
      rw [hself] at hA hR'
      refine ⟨G', ⟨hR'.size, hR'.defers, fun u => ?_, hR'.mem, hR'.fr, hR'.ol⟩, hA⟩
      show VR _ G' B w (upd T t (.os k (e + 1)) u) _
      by_cases hu : u = t
      · subst hu
        rw [upd_same, hq]
        refine .os k (e + 1) (by simp [Dm, upd_same]) _ ?_
        rw [hh', List.length_take, Nat.min_eq_left hm]
        simp
      · rw [upd_ne _ _ hu]
        exact hR'.temps u

section
inductive Kont where
  | done
  | seq (y : SC) (k : Kont)
  | block (id : Nat) (k : Kont)
def KQ (E : Env) (n : Nat) (Q : Ex → AS → Prop) : Kont → Ex → AS → Prop
  | .done => Q
  | .seq y k => Ex.then (AW E n y (KQ E n Q k)) (KQ E n Q k)
  | .block id k => Ex.inBlock id (KQ E n Q k)
def Run (E : Env) (n : Nat) (Q : Ex → AS → Prop) (x : SC) (k : Kont) (s : AS) : Prop := AW E n x (KQ E n Q k) s
def Fin (E : Env) (n : Nat) (Q : Ex → AS → Prop) (k : Kont) (e : Ex) (s : AS) : Prop := KQ E n Q k e s
section
variable {E : Env} {n : Nat} {Q : Ex → AS → Prop} {k : Kont} {s : AS} {x y : SC}
theorem Run.start (h : Run E n Q x .done s) : AW E n x Q s := h
theorem Run.skip (h : Fin E n Q k .normal s) : Run E n Q .skip k s := AW.skip h
theorem Run.ret (h : Fin E n Q k .ret s) : Run E n Q .ret k s := AW.ret h
theorem Run.exit {id : Nat} (h : Fin E n Q k (.exit id) s) : Run E n Q (.exit id) k s := AW.exit h
theorem Run.seq (h : Run E n Q x (.seq y k) s) : Run E n Q (.seq x y) k s := AW.seq h
theorem Run.block {id : Nat} (h : Run E n Q x (.block id k) s) : Run E n Q (.block id x) k s := AW.block h
theorem Run.cond {o : Operand} (b : Bool) (hb : ev s.T o = .bool b) (ht : b = true → Run E n Q x k s) (hf : b = false → Run E n Q y k s) : Run E n Q (.cond o x y) k s := AW.cond hb ht hf
theorem Run.ops {d : Bool} {l : List SOp} (h : awpOps E d none (KQ E n Q k) l s) : Run E n Q (.ops d l) k s := AW.ops h
theorem Run.opsW (K : Nat → Bool) {ws : List Nat} {l : List SOp} (h : awpOps E true (some (ws, K)) (KQ E n Q k) l s) : Run E n Q (.opsW ws l) k s := AW.opsW K h
theorem Run.wk {s' : AS} (hw : Wk n s s') (h : Run E n Q x k s') : Run E n Q x k s := AW.wk hw h
theorem Run.loop (I : Nat → AS → Prop) {m0 : Nat} (h0 : I m0 s) (round : ∀ m s, I m s → AW E n x (Ex.then (fun s' => ∃ m' s'', m' < m ∧ Wk n s' s'' ∧ I m' s'') (KQ E n Q k)) s) : Run E n Q (.loop x) k s := AW.loop I h0 round
theorem Fin.done {e : Ex} (h : Q e s) : Fin E n Q .done e s := h
theorem Fin.seq (h : Run E n Q y k s) : Fin E n Q (.seq y k) .normal s := h
theorem Fin.seq_ret (h : Fin E n Q k .ret s) : Fin E n Q (.seq y k) .ret s := h
theorem Fin.seq_exit {id : Nat} (h : Fin E n Q k (.exit id) s) : Fin E n Q (.seq y k) (.exit id) s := h
theorem Fin.block {id : Nat} (h : Fin E n Q k .normal s) : Fin E n Q (.block id k) .normal s := h
theorem Fin.block_ret {id : Nat} (h : Fin E n Q k .ret s) : Fin E n Q (.block id k) .ret s := h
theorem Fin.block_exit {id : Nat} (h : Fin E n Q k .normal s) : Fin E n Q (.block id k) (.exit id) s := by
  show (if id = id then _ else _)
  rw [if_pos rfl]; exact h
theorem Fin.block_other {id id' : Nat} (hne : (id' == id) = false) (h : Fin E n Q k (.exit id') s) : Fin E n Q (.block id k) (.exit id') s := by
  show (if id' = id then _ else _)
  rw [if_neg (by simpa using hne)]; exact h
theorem Fin.tmp {t : Tmp} {T : Tmps} {M : Mem} {x y : AVal} (h : fz allK M (T t) = x) (hs : x.stb = true) (hsub : sub1 x y) : Fin E n (FnQ E.TE [.tmp t] (.ret y)) .done .ret ⟨T, M⟩ :=
  ⟨[x], by simp [resAll, resOne, h], by simp [stbs, hs], [y], ⟨hsub, trivial⟩, rfl⟩
theorem Fin.tmp' {t : Tmp} {T : Tmps} {M : Mem} {x : AVal} (h : fz allK M (T t) = x) (hs : x.stb = true) : Fin E n (FnQ E.TE [.tmp t] (.ret x)) .done .ret ⟨T, M⟩ := Fin.tmp h hs (.inl rfl)
theorem Fin.nil {t : Tmp} {T : Tmps} {M : Mem} {sz : Nat} (h : T t = .nil) : Fin E n (FnQ E.TE [.tmp t] (.ret (.sl sz []))) .done .ret ⟨T, M⟩ := Fin.tmp (x := .nil) (by rw [h]; rfl) rfl (.inr ⟨rfl, sz, rfl⟩)
theorem Fin.two {t u : Tmp} {T : Tmps} {M : Mem} {x x' y y' : AVal} (h : fz allK M (T t) = x) (hs : x.stb = true) (h' : fz allK M (T u) = x') (hs' : x'.stb = true) (hsub : sub1 x y) (hsub' : sub1 x' y') : Fin E n (FnQ E.TE [.tmp t, .tmp u] (.ret (.tup [y, y']))) .done .ret ⟨T, M⟩ :=
  ⟨[x, x'], by simp [resAll, resOne, h, h'], by simp [stbs, hs, hs'], [y, y'], ⟨hsub, hsub', trivial⟩, rfl⟩
theorem Fin.all {rs : List ResultVar} {xs : List AVal} {y : AVal} (h : resAll E.TE s rs = some xs) (hs : stbs xs = true) (hy : y = outOf xs) : Fin E n (FnQ E.TE rs (.ret y)) .done .ret s :=
  ⟨xs, h, hs, xs, subs_refl xs, by rw [hy]⟩
end
section
variable {E : Env} {d : Bool} {RK : Option (List Nat × (Nat → Bool))} {Q : Ex → AS → Prop} {r : List SOp} {T : Tmps} {M : Mem} {s : AS} {dst : Option Tmp} {op : Op}
def plainOp : Op → Bool
  | .call ⟨.value _, _, _⟩ => false
  | .panic _ => false
  | _ => true
def dchk (d : Bool) (RK : Option (List Nat × (Nat → Bool))) (dst : Option Tmp) (op : Op) (T : Tmps) (ups : List (Nat × ABlk)) : Bool :=
  (!d || clsO (RK.map (·.1)) dst op != .r || ups.isEmpty) && rkOk RK dst op T
theorem dchk_text {dst : Option Tmp} {op : Op} {T : Tmps} {ups : List (Nat × ABlk)} : dchk false none dst op T ups = true := rfl
theorem step_of {v : AVal} {ups : List (Nat × ABlk)} (hp : plainOp op = true) (h : opS E.TE E.EQ s dst op = some (v, ups)) (hc : dchk d RK dst op s.T ups = true)
    {g : Option (Option Tmp × Bool)} {K : AS → Prop} (k : K (AS.put ⟨s.T, ap s.M ups⟩ dst v)) : stepS E d RK ⟨dst, op, g⟩ s Q K := by
  unfold dchk at hc
  simp only [Bool.and_eq_true] at hc
  have hc1 : d = true → clsO (RK.map (·.1)) dst op = .r → ups = [] := fun hd hr => by
    have := hc.1
    simpa [hd, hr] using this
  refine .inl ?_
  unfold stepM
  split
  · rename_i ho
    simp only at ho
    rw [ho] at hp
    simp [plainOp] at hp
  · rename_i ho
    simp only at ho
    rw [ho] at hp
    simp [plainOp] at hp
  · simp only [h]
    exact ⟨⟨hc1, hc.2⟩, k⟩
theorem awp_nilK {n : Nat} {Q : Ex → AS → Prop} {k : Kont} (h : Fin E n Q k .normal s) : awpOps E d RK (KQ E n Q k) [] s := h
theorem awp_op {v : AVal} {ups : List (Nat × ABlk)} (hp : plainOp op = true) (h : opS E.TE E.EQ ⟨T, M⟩ dst op = some (v, ups)) (hc : dchk d RK dst op T ups = true)
    (k : awpOps E d RK Q r (AS.put ⟨T, ap M ups⟩ dst v)) : awpOps E d RK Q (⟨dst, op, none⟩ :: r) ⟨T, M⟩ := step_of hp h hc k
theorem awp_call {t : Option Tmp} {x : Operand} {args : Array Operand} {ts : Array TypeId} (h : callS E.P d RK ⟨T, M⟩ x args (callK (awpOps E d RK Q r) T t) (callQ Q T)) :
    awpOps E d RK Q (⟨t, .call ⟨.value x, args, ts⟩, none⟩ :: r) ⟨T, M⟩ := .inl h
theorem awp_pure {t : Tmp} {x : Operand} {args : Array Operand} {ts : Array TypeId} {f : FuncId} {caps l : List AVal} {v : AVal} (hf : ev T x = .fn f caps)
    (hl : (evs T args.toList ++ caps).map (fz (fun _ => false) M) = l) (hs : stbs l = true) (he : Ev E.P f l (.ret v)) (k : awpOps E d RK Q r ⟨upd T t v, M⟩) :
    awpOps E d RK Q (⟨some t, .call ⟨.value x, args, ts⟩, none⟩ :: r) ⟨T, M⟩ := awp_call (callS_pure hf hl hs he k)
theorem awp_lend {t : Tmp} {x : Operand} {args : Array Operand} {ts : Array TypeId} (K : Nat → Bool) {f : FuncId} {caps l : List AVal} {v : AVal} (hf : ev T x = .fn f caps)
    (hl : (evs T args.toList ++ caps).map (fz K M) = l) (hs : stbs l = true) (he : Ev E.P f l (.ret v)) (hv : v.flt = true) (hr : RK = none) (k : awpOps E d RK Q r ⟨upd T t v, M⟩) :
    awpOps E d RK Q (⟨some t, .call ⟨.value x, args, ts⟩, none⟩ :: r) ⟨T, M⟩ :=
  awp_call (callS_ret K hf hl hs he ⟨fun _ => .inl hv, fun h => by rw [hr] at h; cases h⟩ (by rw [if_pos hv]; exact k))
theorem awp_give {t : Tmp} {x : Operand} {args : Array Operand} {ts : Array TypeId} (K : Nat → Bool) {f : FuncId} {caps l : List AVal} {v : AVal} (hf : ev T x = .fn f caps)
    (hl : (evs T args.toList ++ caps).map (fz K M) = l) (hs : stbs l = true) (he : Ev E.P f l (.ret v)) (hv : v.flt = false) (k : awpOps E false none Q r ⟨upd T t v, kill K M⟩) :
    awpOps E false none Q (⟨some t, .call ⟨.value x, args, ts⟩, none⟩ :: r) ⟨T, M⟩ :=
  awp_call (callS_ret K hf hl hs he ⟨fun h => absurd h (by simp), fun h => absurd h (by simp)⟩ (by rw [if_neg (by rw [hv]; simp)]; exact k))
theorem awp_back {t : Tmp} {x : Operand} {args : Array Operand} {ts : Array TypeId} (p j : Nat) {f : FuncId} {e sz : Nat} {xs args' ys : List AVal} (hf : ev T x = .fn f []) (hp : (evs T args.toList)[p]? = some (.os j e))
    (hk : M j = some (.arr e sz xs)) (ha : ((evs T args.toList).map (fz (fun _ => false) M)).set p .undef = args') (hst : stbs args' = true) (hxs : stbs xs = true) (hys : stbs ys = true)
    (he : EvOwn E.P f args' p sz xs true .undef ys) (k : awpOps E false none Q r ⟨upd T t (.os j (e + 1)), upd M j (some (.arr (e + 1) sz ys))⟩) :
    awpOps E false none Q (⟨some t, .call ⟨.value x, args, ts⟩, none⟩ :: r) ⟨T, M⟩ := awp_call (callS_back p j hf hp hk ha hst hxs hys he k)
theorem awp_turn {t : Tmp} {x : Operand} {args : Array Operand} {ts : Array TypeId} (p j : Nat) {f : FuncId} {e sz : Nat} {xs args' ys : List AVal} {v : AVal} (hf : ev T x = .fn f []) (hp : (evs T args.toList)[p]? = some (.os j e))
    (hk : M j = some (.arr e sz xs)) (ha : ((evs T args.toList).map (fz (fun _ => false) M)).set p .undef = args') (hst : stbs args' = true) (hxs : stbs xs = true) (hys : stbs ys = true) (hr : v.stb = true)
    (he : EvOwn E.P f args' p sz xs false v ys) (k : awpOps E false none Q r ⟨upd T t v, upd M j (some (.arr e sz ys))⟩) :
    awpOps E false none Q (⟨some t, .call ⟨.value x, args, ts⟩, none⟩ :: r) ⟨T, M⟩ := awp_call (callS_inplace p j hf hp hk ha hst hxs hys hr he k)
theorem awp_hook {posts : AVal → Mem → Prop} (h : Hook E.P ⟨T, M⟩ op posts) (k : ∀ v M', posts v M' → awpOps E false none Q r (AS.put ⟨T, M'⟩ dst v)) : awpOps E false none Q (⟨dst, op, none⟩ :: r) ⟨T, M⟩ :=
  .inr (.inl ⟨rfl, posts, h, k⟩)
theorem awp_new {t : Tmp} {x : Operand} {args : Array Operand} {ts : Array TypeId} {f : FuncId} {caps l cs : List AVal} (hf : ev T x = .fn f caps)
    (hl : (evs T args.toList ++ caps).map (fz (fun _ => false) M) = l) (hs : stbs l = true) (he : EvNew E.P f l cs) (hM : M t = none) (k : awpOps E d none Q r ⟨upd T t (.ptr t 0), upd M t (some (.cells cs))⟩) :
    awpOps E d none Q (⟨some t, .call ⟨.value x, args, ts⟩, none⟩ :: r) ⟨T, M⟩ :=
  .inr (.inr ⟨rfl, x, args, ts, f, caps, cs, t, rfl, hf, by rw [hl]; exact hs, by rw [hl]; exact he, rfl, hM, k⟩)
theorem Hook.nil_eq {P : Program} {TE : TyE} (hT : TyOk P TE) {t u : TypeId} {x : Operand} {sz : Nat} {e : TypeId} {s1 b1 : Nat} {z : Value} (ht : TE t = some ⟨.slice e, s1, b1, z⟩) (hx : ev s.T x = .sl sz []) :
    Hook P s (.binOp .eql t x (.const (.slice none 0 0)) u) (fun v M' => M' = s.M ∧ ∃ b, v = .bool b) := by
  intro n B G a w hR o ho K Q hK
  have hv := hR.ev x
  rw [hx] at hv
  obtain ⟨b0, hrun⟩ : ∃ b, (execOp a.eval o).run P w = .ok (.value (.bool b)) w := by
    unfold execOp
    rw [ho]
    obtain ⟨d, inf, q1, q2, _⟩ := hT t _ ht
    have hs : ∃ base len cap, a.eval x = .slice base len cap := by
      generalize a.eval x = q at hv
      cases hv with
      | slnil => exact ⟨_, _, _, rfl⟩
      | slemp => exact ⟨_, _, _, rfl⟩
      | sl _ _ b off cap f _ _ _ _ _ _ => exact ⟨_, _, _, rfl⟩
    obtain ⟨base, len, cap, hs⟩ := hs
    have hd : d = .slice e := by cases d <;> simp [TD.of] at q2; rw [q2]
    subst hd
    have hc : a.eval (.const (.slice none 0 0)) = .slice none 0 0 := rfl
    have hb : ∃ r, (Op.equalIn (9999 + 1) t (.slice base len cap) (.slice none 0 0)).run P w = .ok r w := by
      cases base with
      | none => exact ⟨true, eqS q1 w _ _ _ _ _ _ _ _ (.inl ⟨rfl, rfl⟩)⟩
      | some q => exact ⟨false, eqS q1 w _ _ _ _ _ _ _ _ (.inr ⟨rfl, rfl, rfl⟩)⟩
    obtain ⟨r, hr⟩ := hb
    obtain ⟨g1, _⟩ := both_of (t := t) (ox := x) (oy := .const (.slice none 0 0)) (x' := .slice base len cap) (y' := .slice none 0 0) (fun op => by cases op <;> rfl) rfl rfl hr
    refine ⟨r, ?_⟩
    simp only [hs, hc]
    rw [Sem.run_bind, g1]
    rfl
  unfold Oper.wp
  rw [hrun]
  exact hK (.bool b0) (.bool b0) s.M w G ⟨rfl, b0, rfl⟩ (.refl G w) hR (.bool b0)
end
end
section
def tms : List (Nat × AVal) → Tmps
  | [] => fun _ => .undef
  | (k, v) :: r => upd (tms r) k v
theorem tms_or {T : Tmps} : ∀ {l : List (Nat × AVal)}, (∀ p ∈ l, T p.1 = p.2) → ∀ t, tms l t = T t ∨ tms l t = .undef
  | [], _, t => .inr rfl
  | (k, v) :: r, h, t => by
    simp only [tms]
    by_cases ht : t = k
    · subst ht
      rw [upd_same]
      exact .inl (h (t, v) (by simp)).symm
    · rw [upd_ne _ _ ht]
      exact tms_or (fun p hp => h p (by simp [hp])) t
theorem tms_no {K : Nat → Bool} : ∀ {l : List (Nat × AVal)}, (∀ p ∈ l, p.2.no K = true) → ∀ t, (tms l t).no K = true
  | [], _, t => rfl
  | (k, v) :: r, h, t => by
    simp only [tms]
    by_cases ht : t = k
    · subst ht
      rw [upd_same]
      exact h (t, v) (by simp)
    · rw [upd_ne _ _ ht]
      exact tms_no (fun p hp => h p (by simp [hp])) t
def allT (T : Tmps) : List (Nat × AVal) → Prop
  | [] => True
  | (k, v) :: r => T k = v ∧ allT T r
theorem allT_of {T : Tmps} : ∀ {l : List (Nat × AVal)}, allT T l → ∀ p ∈ l, T p.1 = p.2
  | [], _, p, hp => by cases hp
  | (k, v) :: r, h, p, hp => by
    rcases List.mem_cons.1 hp with rfl | hp
    · exact h.1
    · exact allT_of h.2 p hp
def allNo (K : Nat → Bool) : List (Nat × AVal) → Prop
  | [] => True
  | (_, v) :: r => v.no K = true ∧ allNo K r
theorem allNo_of {K : Nat → Bool} : ∀ {l : List (Nat × AVal)}, allNo K l → ∀ p ∈ l, p.2.no K = true
  | [], _, p, hp => by cases hp
  | (k, v) :: r, h, p, hp => by
    rcases List.mem_cons.1 hp with rfl | hp
    · exact h.1
    · exact allNo_of h.2 p hp
theorem no_of_stb {K : Nat → Bool} {x : AVal} (h : x.stb = true) : x.no K = true := by
  cases x <;> first | exact h | (simp [AVal.stb] at h)
theorem Wk.to {n : Nat} {T : Tmps} {M M' : Mem} (K : Nat → Bool) (l : List (Nat × AVal)) (h : allT T l) (hn : allNo K l) (hM : ∀ k blk, K k = false → M k = some blk → blk.no K = true)
    (hM' : M' = fun k => if K k = true then none else M k) : Wk n ⟨T, M⟩ ⟨tms l, M'⟩ :=
  (Wk.temps (tms_or (allT_of h))).trans (Wk.drop K (tms_no (allNo_of hn)) hM hM')
theorem Wk.clean {n : Nat} {T : Tmps} {M : Mem} (l : List (Nat × AVal)) (h : allT T l) (hn : allNo (fun _ => true) l) : Wk n ⟨T, M⟩ ⟨tms l, NoM⟩ :=
  Wk.to (fun _ => true) l h hn (fun k blk hk => by cases hk) (by funext k; simp [NoM])
theorem Wk.keep {n : Nat} {T : Tmps} {M : Mem} (l : List (Nat × AVal)) (h : allT T l) : Wk n ⟨T, M⟩ ⟨tms l, M⟩ := Wk.temps (tms_or (allT_of h))
def mms : List (Nat × ABlk) → Mem
  | [] => NoM
  | (k, v) :: r => upd (mms r) k (some v)
def allM (M : Mem) : List (Nat × ABlk) → Prop
  | [] => True
  | (k, v) :: r => M k = some v ∧ allM M r
def blkNo (K : Nat → Bool) : List (Nat × ABlk) → Prop
  | [] => True
  | (_, v) :: r => v.no K = true ∧ blkNo K r
def offL : List (Nat × ABlk) → Nat → Bool
  | [], _ => true
  | (j, _) :: r, k => !(k == j) && offL r k
theorem mms_off {M : Mem} : ∀ {l : List (Nat × ABlk)}, allM M l → ∀ k, mms l k = if offL l k = true then none else M k
  | [], _, k => by simp [mms, offL, NoM]
  | (j, b) :: r, h, k => by
    simp only [mms, offL]
    by_cases hk : k = j
    · subst hk
      simp [upd_same, h.1]
    · rw [upd_ne _ _ hk, mms_off h.2 k]
      simp [hk]
theorem blkNo_of {K : Nat → Bool} {M : Mem} : ∀ {l : List (Nat × ABlk)}, allM M l → blkNo K l → ∀ k blk, offL l k = false → M k = some blk → blk.no K = true
  | [], _, _, k, blk, h, _ => by simp [offL] at h
  | (j, b) :: r, hm, hn, k, blk, h, hk => by
    by_cases hkj : k = j
    · subst hkj
      rw [hm.1] at hk
      cases hk
      exact hn.1
    · refine blkNo_of hm.2 hn.2 k blk ?_ hk
      simpa [offL, hkj] using h
theorem Wk.toL {n : Nat} {T : Tmps} {M : Mem} (l : List (Nat × AVal)) (m : List (Nat × ABlk)) (h : allT T l) (hm : allM M m) (hn : allNo (offL m) l) (hb : blkNo (offL m) m) : Wk n ⟨T, M⟩ ⟨tms l, mms m⟩ :=
  Wk.to (offL m) l h hn (fun k blk hk hM => blkNo_of hm hb k blk hk hM) (funext fun k => mms_off hm k)
theorem Wk.own_cells {n : Nat} {T : Tmps} {M : Mem} {k : Nat} {cs cs' : List AVal} (hk : M k = some (.cells cs)) (hl : cs'.length = cs.length) (h : ∀ (i : Nat) (x y : AVal), cs[i]? = some x → cs'[i]? = some y → y = x ∨ (x = .nil ∧ ∃ sz, y = .own sz [])) :
    Wk n ⟨T, M⟩ ⟨T, upd M k (some (.cells cs'))⟩ := by
  intro B G a w hR
  obtain ⟨c, el, b1, b2, b3, b4, b5⟩ := hR.mem k _ hk
  have hA : Adv G w G w := .refl G w
  refine ⟨G, hR.update hA k (.cells cs') (by show Succ (M k) _; rw [hk]; trivial) (fun _ _ _ => ⟨rfl, rfl⟩) (fun b key _ _ ho _ => ⟨rfl, ho⟩) hR.ol ?_, hA⟩
  have hD : ∀ j e, Dm M j e → Dm (upd M k (some (.cells cs'))) j e := fun j e => Dm_upd (by rw [hk]; trivial)
  have hw : ∀ b, b < w.heap.size → ¬ B b → G.ow b = none → w.heap[b]? = w.heap[b]? ∧ ¬ B b ∧ G.ow b = none := fun b _ hn ho => ⟨rfl, hn, ho⟩
  refine ⟨c, el, b1, b2, b3, by rw [b4, hl], fun i y hy => ?_⟩
  have hlt : i < cs.length := by
    rw [← hl]
    rcases Nat.lt_or_ge i cs'.length with h' | h'
    · exact h'
    · rw [List.getElem?_eq_none h'] at hy; cases hy
  obtain ⟨u, hu, hr⟩ := b5 i cs[i] (by simp [hlt])
  refine ⟨u, hu, ?_⟩
  rcases h i cs[i] y (by simp [hlt]) hy with he | ⟨he, sz, rfl⟩
  · rw [he]
    generalize cs[i] = x at hr
    cases x with
    | own sz xs => exact OwnAt.mono hD (fun _ _ _ => ⟨rfl, rfl⟩) hw (fun b _ hb2 hb3 => ⟨rfl, hb2, hb3⟩) hr
    | hole => trivial
    | _ => exact VR.mono hD (fun _ _ _ => ⟨rfl, rfl⟩) hw hr
  · rw [he] at hr
    have hu' : u = .slice none 0 0 := by
      have hr' : VR (Dm M) G B w .nil u := hr
      cases hr'
      rfl
    exact .inl ⟨hu', rfl⟩
def LoopQ (n : Nat) (s2 : AS) (Q : Ex → AS → Prop) : Ex → AS → Prop := Ex.then (fun s' => Wk n s' s2) Q
section
variable {E : Env} {n : Nat} {Q : Ex → AS → Prop} {k : Kont} {s : AS} {x : SC}
theorem Fin.next {s2 : AS} {Q' : Ex → AS → Prop} (h : Wk n s s2) : Fin E n (LoopQ n s2 Q') .done .normal s := h
theorem Fin.out {s2 : AS} {id : Nat} (h : Fin E n Q k (.exit id) s) : Fin E n (LoopQ n s2 (KQ E n Q k)) .done (.exit id) s := h
theorem Fin.out_ret {s2 : AS} (h : Fin E n Q k .ret s) : Fin E n (LoopQ n s2 (KQ E n Q k)) .done .ret s := h
theorem Run.range (len : Nat) (S : Nat → AS) (h0 : Wk n s (S 0)) (round : ∀ i, i < len → Run E n (LoopQ n (S (i + 1)) (KQ E n Q k)) x .done (S i))
    (last : Run E n (Ex.then (fun _ => False) (KQ E n Q k)) x .done (S len)) : Run E n Q (.loop x) k s := by
  refine Run.wk h0 (Run.loop (fun m s => ∃ i, i ≤ len ∧ m = len - i ∧ s = S i) (m0 := len) ⟨0, Nat.zero_le _, rfl, rfl⟩ fun m s ⟨i, hi, hm, hs⟩ => ?_)
  subst hs
  by_cases hl : i < len
  · refine AW.mono (round i hl) fun e s' h => ?_
    cases e with
    | normal => exact ⟨len - (i + 1), S (i + 1), by omega, h, i + 1, hl, rfl, rfl⟩
    | _ => exact h
  · have : i = len := by omega
    subst this
    refine AW.mono last fun e s' h => ?_
    cases e with
    | normal => exact h.elim
    | _ => exact h
theorem Fin.last {id : Nat} (h : Fin E n Q k (.exit id) s) : Fin E n (Ex.then (fun _ => False) (KQ E n Q k)) .done (.exit id) s := h
end
end
section
theorem wrap_ok {x : Int} (h : -9223372036854775808 ≤ x ∧ x ≤ 9223372036854775807) : IntKind.i64.wrap x = x := by
  simp only [IntKind.wrap, IntKind.bits, IntKind.signed]
  simp
  omega
theorem wrap_succ {i : Nat} (h : i < 9223372036854775807) : IntKind.i64.wrap ((i : Int) + 1) = ((i + 1 : Nat) : Int) := by rw [wrap_ok (by omega)]; omega
theorem wrap_pred {i : Nat} (h : 1 ≤ i ∧ i ≤ 9223372036854775807) : IntKind.i64.wrap ((i : Int) - 1) = ((i - 1 : Nat) : Int) := by rw [wrap_ok (by omega)]; omega
theorem wrap_add {i j : Nat} (h : i + j ≤ 9223372036854775807) : IntKind.i64.wrap ((i : Int) + j) = ((i + j : Nat) : Int) := by rw [wrap_ok (by omega)]; omega
theorem wrap_half {n : Nat} (h : n ≤ 9223372036854775807) : IntKind.i64.wrap ((n : Int).tdiv 2) = ((n / 2 : Nat) : Int) := by
  have e : (n : Int).tdiv 2 = ((n / 2 : Nat) : Int) := by rw [Int.ofNat_tdiv]; rfl
  rw [e, wrap_ok (by omega)]
theorem dT {p : Prop} [Decidable p] (h : p) : decide p = true := decide_eq_true h
theorem dF {p : Prop} [Decidable p] (h : ¬ p) : decide p = false := decide_eq_false h
theorem ltT {a b : Int} (h : a < b) : (a < b) = True := eq_true h
theorem ltF {a b : Int} (h : ¬ a < b) : (a < b) = False := eq_false h
theorem leT {a b : Int} (h : a ≤ b) : (a ≤ b) = True := eq_true h
theorem leF {a b : Int} (h : ¬ a ≤ b) : (a ≤ b) = False := eq_false h
theorem ltTN {a b : Nat} (h : a < b) : (a < b) = True := eq_true h
theorem ltFN {a b : Nat} (h : ¬ a < b) : (a < b) = False := eq_false h
theorem leTN {a b : Nat} (h : a ≤ b) : (a ≤ b) = True := eq_true h
theorem leFN {a b : Nat} (h : ¬ a ≤ b) : (a ≤ b) = False := eq_false h
class Enc (α : Type) where
  enc : α → AVal
  stb : ∀ x, (enc x).stb = true
def encL {α : Type} [Enc α] (l : List α) : List AVal := l.map Enc.enc
section
variable {α : Type} [Enc α]
theorem encL_len (l : List α) : (encL l).length = l.length := by simp [encL]
theorem encL_stb (l : List α) : stbs (encL l) = true := stbs_map Enc.stb
theorem encL_get {l : List α} {i : Nat} (h : i < l.length) : (encL l)[i]? = some (Enc.enc l[i]) := by simp [encL, h]
end
def LoopW {σ : Type} (n : Nat) (S : σ → AS) (ok : σ → Prop) (Q : Ex → AS → Prop) : Ex → AS → Prop := Ex.then (fun s' => ∃ y, ok y ∧ Wk n s' (S y)) Q
section
variable {E : Env} {n : Nat} {Q : Ex → AS → Prop} {k : Kont} {s : AS} {x : SC} {σ : Type} {S : σ → AS} {ok : σ → Prop}
theorem Run.while (S : σ → AS) (I : σ → Prop) (m : σ → Nat) (x0 : σ) (h0 : Wk n s (S x0)) (hI : I x0)
    (round : ∀ y, I y → Run E n (LoopW n S (fun z => I z ∧ m z < m y) (KQ E n Q k)) x .done (S y)) : Run E n Q (.loop x) k s := by
  refine Run.wk h0 (Run.loop (fun c s => ∃ y, I y ∧ m y = c ∧ s = S y) (m0 := m x0) ⟨x0, hI, rfl, rfl⟩ fun c s ⟨y, hy, hm, hs⟩ => ?_)
  subst hs
  refine AW.mono (round y hy) fun e s' h => ?_
  cases e with
  | normal =>
    obtain ⟨z, ⟨h1, h2⟩, h3⟩ := h
    exact ⟨m z, S z, by omega, h3, z, h1, rfl, rfl⟩
  | _ => exact h
theorem Fin.nextW (y : σ) {Q' : Ex → AS → Prop} (hy : ok y) (h : Wk n s (S y)) : Fin E n (LoopW n S ok Q') .done .normal s := ⟨y, hy, h⟩
theorem Fin.outW {id : Nat} (h : Fin E n Q k (.exit id) s) : Fin E n (LoopW n S ok (KQ E n Q k)) .done (.exit id) s := h
theorem Fin.outW_ret (h : Fin E n Q k .ret s) : Fin E n (LoopW n S ok (KQ E n Q k)) .done .ret s := h
theorem awp_op2 {d : Bool} {RK : Option (List Nat × (Nat → Bool))} {Q : Ex → AS → Prop} {r : List SOp} {T : Tmps} {M : Mem} {dst : Option Tmp} {op : Op} {v : AVal} {ups : List (Nat × ABlk)} {s' : AS} (hp : plainOp op = true) (h : opS E.TE E.EQ ⟨T, M⟩ dst op = some (v, ups))
    (hc : dchk d RK dst op T ups = true) (hs : AS.put ⟨T, ap M ups⟩ dst v = s') (k : awpOps E d RK Q r s') : awpOps E d RK Q (⟨dst, op, none⟩ :: r) ⟨T, M⟩ := awp_op hp h hc (hs ▸ k)
end
end
section
theorem arr_no {K : Nat → Bool} {e sz : Nat} {xs : List AVal} (h : stbs xs = true) : (ABlk.arr e sz xs).no K = true := by
  simp only [ABlk.no, List.all_eq_true]
  intro x hx
  exact no_of_stb (stbs_flat h x hx)
theorem evs_nil' (T : Tmps) : evs T [] = [] := rfl
theorem evs_cons' (T : Tmps) (x : Operand) (l : List Operand) : evs T (x :: l) = ev T x :: evs T l := rfl
theorem evp_nil' (T : Tmps) : evp T [] = [] := rfl
theorem evp_cons' (T : Tmps) (x : Nat × Operand) (l : List (Nat × Operand)) : evp T (x :: l) = (x.1, ev T x.2) :: evp T l := rfl
theorem omap_ev_none (T : Tmps) : (none : Option Operand).map (ev T) = none := rfl
theorem omap_ev_some (T : Tmps) (x : Operand) : (some x).map (ev T) = some (ev T x) := rfl
theorem upd_app {α : Type} (f : Nat → α) (k : Nat) (v : α) (j : Nat) : upd f k v j = if j = k then v else f j := rfl
theorem tms_nil' (j : Nat) : tms [] j = .undef := rfl
theorem tms_cons' (k : Nat) (v : AVal) (r : List (Nat × AVal)) (j : Nat) : tms ((k, v) :: r) j = if j = k then v else tms r j := rfl
theorem mms_nil' (j : Nat) : mms [] j = none := rfl
theorem mms_cons' (k : Nat) (v : ABlk) (r : List (Nat × ABlk)) (j : Nat) : mms ((k, v) :: r) j = if j = k then some v else mms r j := rfl
theorem NoM' (j : Nat) : NoM j = none := rfl
theorem initT' (l : List AVal) (j : Nat) : initT l j = (l[j]?).getD .undef := rfl
section
variable {T : Tmps} {M : Mem} {t : Tmp} {v : AVal} {j j' : Nat} {b b' : ABlk}
theorem put_v : AS.put ⟨T, ap M []⟩ (some t) v = ⟨upd T t v, M⟩ := rfl
theorem put_k : AS.put ⟨T, ap M [(j, b)]⟩ (some t) v = ⟨upd T t v, upd M j (some b)⟩ := rfl
theorem put_k2 : AS.put ⟨T, ap M [(j, b), (j', b')]⟩ (some t) v = ⟨upd T t v, upd (upd M j (some b)) j' (some b')⟩ := rfl
theorem put_n : AS.put ⟨T, ap M []⟩ none v = ⟨T, M⟩ := rfl
theorem put_s : AS.put ⟨T, ap M [(j, b)]⟩ none v = ⟨T, upd M j (some b)⟩ := rfl
theorem put_s2 : AS.put ⟨T, ap M [(j, b), (j', b')]⟩ none v = ⟨T, upd (upd M j (some b)) j' (some b')⟩ := rfl
end
class Live (l : List SOp) where
  L : List Nat
class Rd (l : List SOp) where
  K : Nat → Bool
def rstr (L : List Nat) (T : Tmps) : List (Nat × AVal) := L.map fun k => (k, T k)
theorem rstr_nil (T : Tmps) : rstr [] T = [] := rfl
theorem rstr_cons (k : Nat) (L : List Nat) (T : Tmps) : rstr (k :: L) T = (k, T k) :: rstr L T := rfl
theorem rstr_all (T : Tmps) : ∀ L : List Nat, allT T (rstr L T)
  | [] => trivial
  | k :: L => ⟨rfl, rstr_all T L⟩
theorem upd_upd {α : Type} (f : Nat → α) (k : Nat) (v u : α) : upd (upd f k v) k u = upd f k u := by
  funext j
  simp only [upd]
  split <;> rfl
section
variable {E : Env} {n : Nat} {Q : Ex → AS → Prop} {k : Kont} {d : Bool} {T : Tmps} {T' : List (Nat × AVal)} {M M' : Mem}
theorem Run.opsL0 {l l2 : List SOp} (e : l = l2) (L : List Nat) (hT : rstr L T = T') (hM : M = M') (g : awpOps E d none (KQ E n Q k) l2 ⟨tms T', M'⟩) : Run E n Q (.ops d l) k ⟨T, M⟩ := by
  subst hT; subst hM; subst e
  exact Run.wk (Wk.keep (rstr L T) (rstr_all T L)) (Run.ops g)
theorem Run.opsWL0 (K : Nat → Bool) {ws : List Nat} {l l2 : List SOp} (e : l = l2) (L : List Nat) (hT : rstr L T = T') (hM : M = M') (g : awpOps E true (some (ws, K)) (KQ E n Q k) l2 ⟨tms T', M'⟩) : Run E n Q (.opsW ws l) k ⟨T, M⟩ := by
  subst hT; subst hM; subst e
  exact Run.wk (Wk.keep (rstr L T) (rstr_all T L)) (Run.opsW K g)
end
end
section
def Hyp (p A : Prop) : Prop := p → A
theorem Hyp.of {p A : Prop} (h : p → A) : Hyp p A := h
def GuardG (x : AVal) (b : Bool) (yes no : Prop) : Prop :=
  match x with
  | .bool c => (c = b → yes) ∧ (c = !b → no)
  | .tup _ => no
  | _ => False
section
variable {E : Env} {d : Bool} {RK : Option (List Nat × (Nat → Bool))} {Q : Ex → AS → Prop} {r : List SOp} {T : Tmps} {M : Mem} {s' : AS} {dst : Option Tmp} {op : Op} {A B : Prop}
theorem awp_g {t u : Tmp} {b : Bool} {x : AVal} (hT : T t = x) (h : GuardG x b (awpOps E d RK Q (⟨some u, op, none⟩ :: r) ⟨T, M⟩) (awpOps E d RK Q r ⟨upd T u (.tup []), M⟩)) :
    awpOps E d RK Q (⟨some u, op, some (some t, b)⟩ :: r) ⟨T, M⟩ := by
  simp only [awpOps, wantS, hT]
  unfold GuardG at h
  cases x <;> first | exact h.elim | exact h
theorem awp_g0 {t : Tmp} {b : Bool} {x : AVal} (hT : T t = x) (h : GuardG x b (awpOps E d RK Q (⟨none, op, none⟩ :: r) ⟨T, M⟩) (awpOps E d RK Q r ⟨T, M⟩)) :
    awpOps E d RK Q (⟨none, op, some (some t, b)⟩ :: r) ⟨T, M⟩ := by
  simp only [awpOps, wantS, hT]
  unfold GuardG at h
  cases x <;> first | exact h.elim | exact h
theorem g_tup {l : List AVal} {b : Bool} (h : B) : GuardG (.tup l) b A B := h
theorem g_tt (h : A) : GuardG (.bool true) true A B := ⟨fun _ => h, fun h => by cases h⟩
theorem g_ff (h : A) : GuardG (.bool false) false A B := ⟨fun _ => h, fun h => by cases h⟩
theorem g_tf (h : B) : GuardG (.bool true) false A B := ⟨fun h => (by cases h), fun _ => h⟩
theorem g_ft (h : B) : GuardG (.bool false) true A B := ⟨fun h => (by cases h), fun _ => h⟩
theorem g_splitT {c : Bool} (h1 : Hyp (c = true) A) (h2 : Hyp (c = false) B) : GuardG (.bool c) true A B := ⟨h1, h2⟩
theorem g_splitF {c : Bool} (h1 : Hyp (c = true) B) (h2 : Hyp (c = false) A) : GuardG (.bool c) false A B := ⟨h2, h1⟩
end
def CondG (x : AVal) (A B : Prop) : Prop :=
  match x with
  | .bool c => (c = true → A) ∧ (c = false → B)
  | _ => False
section
variable {E : Env} {n : Nat} {Q : Ex → AS → Prop} {k : Kont} {x y : SC} {s : AS} {A B : Prop}
theorem Run.condG {o : Operand} {v : AVal} (hb : ev s.T o = v) (h : CondG v (Run E n Q x k s) (Run E n Q y k s)) : Run E n Q (.cond o x y) k s := by
  unfold CondG at h
  cases v <;> first | exact h.elim | skip
  exact Run.cond _ hb h.1 h.2
theorem c_t (h : A) : CondG (.bool true) A B := ⟨fun _ => h, fun h => by cases h⟩
theorem c_f (h : B) : CondG (.bool false) A B := ⟨fun h => (by cases h), fun _ => h⟩
theorem c_split {c : Bool} (h1 : Hyp (c = true) A) (h2 : Hyp (c = false) B) : CondG (.bool c) A B := ⟨h1, h2⟩
end
theorem kill_app (K : Nat → Bool) (M : Mem) (j : Nat) : kill K M j = if K j = true then (M j).map (fun _ => .dead) else M j := rfl
end
section
open Go.ChangeShapes Go.WideShapes Go.ChangeAt Go.RowKit
def VR0 (w : World) (x : AVal) (v : Value) : Prop := ∀ G : Gh, (∀ b, G.ow b = none) → VR (Dm NoM) G (fun _ => False) w x v
structure Opens (P : Program) (t : TypeId) (α : Type) (ok : α → Prop) (c : α → List AVal) (wt : α → Nat) : Prop where
  run : ∀ {H : Type} (enc : TypeId × Value → H) (w : World) (fuel : Nat) (cs : List Value) (d : DataW H) (ps : List MemPlace),
    DataW.trod enc P w 0 (fun _ => true) true fuel t cs = some (d, ps) →
    ∃ x : α, ok x ∧ wt x ≤ Rows.uptoBulk d ∧ cs.length = (c x).length ∧ ∀ (n : Nat) (y : AVal) (v : Value), (c x)[n]? = some y → cs[n]? = some v → VR0 w y v
section
variable {P : Program} {t : TypeId}
def inI64 (n : Int) : Prop := -9223372036854775808 ≤ n ∧ n ≤ 9223372036854775807
theorem Opens.int (ht : P.underlying t = some (.int .i64)) : Opens P t Int inI64 (fun n => [.int .i64 n]) (fun _ => 1) := by
  refine ⟨fun {H} enc w fuel cs d ps h => ?_⟩
  obtain ⟨n, rfl, hx, hw⟩ := DataW.trod_int ht h
  have hd : d = .lit (.int .i64 n) := congrArg Prod.fst hx
  subst hd
  refine ⟨n, bounds_i64 hw, by simp [Rows.uptoBulk], rfl, fun i y v hy hv G hG => ?_⟩
  match i with
  | 0 => simp at hy hv; subst hy; subst hv; exact .int _ _
  | i + 1 => simp at hy
theorem Opens.bool (ht : P.underlying t = some .bool) : Opens P t Bool (fun _ => True) (fun n => [.bool n]) (fun _ => 1) := by
  refine ⟨fun {H} enc w fuel cs d ps h => ?_⟩
  obtain ⟨n, rfl, hx⟩ := DataW.trod_bool ht h
  have hd : d = .lit (.bool n) := congrArg Prod.fst hx
  subst hd
  refine ⟨n, trivial, by simp [Rows.uptoBulk], rfl, fun i y v hy hv G hG => ?_⟩
  match i with
  | 0 => simp at hy hv; subst hy; subst hv; exact .bool _
  | i + 1 => simp at hy
theorem Opens.string (ht : P.underlying t = some .string) : Opens P t ByteArray (fun _ => True) (fun s => [.str s]) (fun s => s.size + 1) := by
  refine ⟨fun {H} enc w fuel cs d ps h => ?_⟩
  obtain ⟨n, rfl, hx, hs⟩ := DataW.trod_string ht h
  have hd : d = .lit (.string n.data.toList) := congrArg Prod.fst hx
  subst hd
  refine ⟨n, trivial, ?_, rfl, fun i y v hy hv G hG => ?_⟩
  · simp only [Rows.uptoBulk, Array.length_toList]
    exact Nat.le_refl _
  · match i with
    | 0 => simp at hy hv; subst hy; subst hv; exact .str _
    | i + 1 => simp at hy
theorem bulk_sum {H : Type} {α : Type} {wt : α → Nat} : ∀ (es : List (DataW H × List MemPlace)) (l : List α), l.length = es.length → (∀ (i : Nat) x e, l[i]? = some x → es[i]? = some e → wt x ≤ Rows.uptoBulk e.1) → (l.map wt).sum ≤ Rows.uptoBulkAll (es.map (·.1))
  | [], [], _, _ => Nat.le_refl _
  | e :: es, x :: l, hl, h => by
    have h1 := h 0 x e rfl rfl
    have h2 := bulk_sum es l (by simpa using hl) fun i y u hy hu => h (i + 1) y u (by simpa using hy) (by simpa using hu)
    simp only [List.map_cons, List.sum_cons, Rows.uptoBulkAll]
    omega
  | [], _ :: _, hl, _ => by simp at hl
  | _ :: _, [], hl, _ => by simp at hl
theorem addr_add (b off i j : Nat) : ((⟨b, off, none⟩ : Addr).add i).add j = ⟨b, off + i + j, none⟩ := by
  unfold Addr.add
  split <;> split <;> simp_all
def wtL {α : Type} (wt : α → Nat) (l : List α) : Nat := (l.map wt).sum + 1
theorem Opens.slice {e : TypeId} {α : Type} {ok : α → Prop} {c : α → List AVal} {wt : α → Nat} {k : Nat} {mk : α → AVal} (ht : P.underlying t = some (.slice e)) (he : Opens P e α ok c wt) (hcell : P.cellsOf e = k) (hk0 : 0 < k)
    (hmk : ∀ x, (mk x).cells = c x) (hk : ∀ x, (c x).length = k) (hone : ∀ x, ∀ y ∈ c x, y.one = true) : Opens P t (List α) (fun l => ∀ x ∈ l, ok x) (fun l => [.sl k (l.map mk)]) (wtL wt) := by
  refine ⟨fun {H} enc w fuel cs d ps h => ?_⟩
  rcases DataW.trod_slice ht h with ⟨rfl, hx⟩ | ⟨a, len, cap, elems, rest, m, _, rfl, hx, hb, hl, hm, hlen, hel, _, _⟩
  · have hd : d = .nil := congrArg Prod.fst hx
    subst hd
    refine ⟨[], by simp, by simp [wtL, Rows.uptoBulk], rfl, fun i y v hy hv G hG => ?_⟩
    match i with
    | 0 => simp at hy hv; subst hy; subst hv; exact .slnil k
    | i + 1 => simp at hy
  · have hd : d = .slice (elems.map (·.1)) (rest.map (·.1)) := congrArg Prod.fst hx
    subst hd
    obtain ⟨b, off, sp⟩ := a
    rcases Nat.eq_zero_or_pos len with h0 | h0
    · subst h0
      refine ⟨[], by simp, by simp [wtL, Rows.uptoBulk], rfl, fun i y v hy hv G hG => ?_⟩
      match i with
      | 0 => simp at hy hv; subst hy; subst hv; exact .slemp k _ cap
      | i + 1 => simp at hy
    have hspot : sp = none := by
      have h1 := hel 0 h0
      rw [List.getElem?_eq_getElem (by omega), Option.bind_eq_some_iff] at h1
      obtain ⟨cs', h2, h3⟩ := h1
      rw [hcell] at h2
      obtain ⟨_, h4, h5⟩ := World.cells?_some h2
      have h6 := h5 0 hk0
      rw [List.getElem?_eq_getElem (by omega)] at h6
      simp only [Nat.zero_mul, Addr.add, if_true, World.cell?] at h6
      cases sp with
      | none => rfl
      | some q => split at h6 <;> simp at h6
    subst hspot
    rw [hcell] at hel
    have each : ∀ i : _root_.Fin len, ∃ x : α, ok x ∧ (∀ e, elems[i.1]? = some e → wt x ≤ Rows.uptoBulk e.1) ∧ ∀ (j : Nat) (y : AVal), (c x)[j]? = some y → ∃ v, w.cell? ⟨b, off + i.1 * k + j, none⟩ = some v ∧ VR0 w y v := by
      intro i
      have h1 := hel i.1 i.2
      have hi : i.1 < elems.length := by rw [hlen]; exact i.2
      rw [List.getElem?_eq_getElem hi, Option.bind_eq_some_iff] at h1
      obtain ⟨cs', h2, h3⟩ := h1
      obtain ⟨_, h4, h5⟩ := World.cells?_some h2
      obtain ⟨x, ho, hw, hlx, hv⟩ := he.run enc w m cs' elems[i.1].1 elems[i.1].2 h3
      refine ⟨x, ho, fun e he => ?_, fun j y hy => ?_⟩
      · rw [List.getElem?_eq_getElem hi] at he
        cases he
        exact hw
      · have hj : j < k := by
          rw [← hk x]
          rcases Nat.lt_or_ge j (c x).length with h | h
          · exact h
          · rw [List.getElem?_eq_none h] at hy; cases hy
        have h6 := h5 j hj
        rw [addr_add] at h6
        have hjl : j < cs'.length := by omega
        rw [List.getElem?_eq_getElem hjl] at h6
        exact ⟨_, h6, hv j y _ hy (List.getElem?_eq_getElem hjl)⟩
    let l : List α := List.ofFn fun i : _root_.Fin len => (each i).choose
    have hll : l.length = len := by simp [l]
    have hget : ∀ (i : Nat) (hi : i < len), l[i]? = some (each ⟨i, hi⟩).choose := fun i hi => by simp [l, hi]
    refine ⟨l, fun x hx => ?_, ?_, rfl, fun i y v hy hv G hG => ?_⟩
    · obtain ⟨i, rfl⟩ := (List.mem_ofFn).1 hx
      exact (each i).choose_spec.1
    · have := bulk_sum (wt := wt) elems l (by omega) fun i x e hx he => by
        have hi : i < len := by
          rcases Nat.lt_or_ge i len with h | h
          · exact h
          · rw [List.getElem?_eq_none (by omega)] at hx; cases hx
        rw [hget i hi] at hx
        cases hx
        exact (each ⟨i, hi⟩).choose_spec.2.1 e he
      simp only [wtL, Rows.uptoBulk]
      omega
    · match i with
      | i + 1 => simp at hy
      | 0 =>
        simp only [List.getElem?_cons_zero, Option.some.injEq] at hy hv
        subst hy; subst hv
        have hsz : ∀ x ∈ l.map mk, x.cells.length = k := by
          intro x hx
          obtain ⟨z, _, rfl⟩ := List.mem_map.1 hx
          rw [hmk, hk]
        have cellv : ∀ (n : Nat) (x : AVal), (flat (l.map mk))[n]? = some x → ∃ v, w.cell? ⟨b, off + n, none⟩ = some v ∧ VR0 w x v := by
          intro n x hx
          have hn : n < len * k := by
            have h1 := flat_length hsz
            rw [List.length_map, hll] at h1
            rcases Nat.lt_or_ge n (len * k) with h | h
            · exact h
            · rw [List.getElem?_eq_none (by omega)] at hx; cases hx
          have h1 : n / k < len := Nat.div_lt_of_lt_mul (by rw [Nat.mul_comm]; exact hn)
          have h2 : n % k < k := Nat.mod_lt _ hk0
          have h3 := flat_at (sz := k) (xs := l.map mk) (i := n / k) (j := n % k) (x := mk (each ⟨n / k, h1⟩).choose) hsz (by rw [List.getElem?_map, hget _ h1]; rfl) h2
          have e : n / k * k + n % k = n := by rw [Nat.mul_comm]; exact Nat.div_add_mod n k
          rw [e, hmk] at h3
          rw [hx] at h3
          obtain ⟨v, hv, hr⟩ := (each ⟨n / k, h1⟩).choose_spec.2.2 (n % k) x h3.symm
          refine ⟨v, ?_, hr⟩
          rw [← hv]
          congr 2
          simp only
          omega
        have e0 : (l.map mk).length = len := by simp [hll]
        have hsl : VR (Dm NoM) G (fun _ => False) w (.sl k (l.map mk)) (.slice (some ⟨b, off, none⟩) (l.map mk).length cap) := by
          refine .sl k (l.map mk) b off cap (fun n => (w.cell? ⟨b, off + n, none⟩).getD undef) (by omega) (fun _ => ⟨fun h => h, hG b⟩) (fun x hx => ?_) hsz (fun n x hx => ?_) (fun n x hx => ?_)
          · obtain ⟨z, hz, hx⟩ := List.mem_flatMap.1 hx
            obtain ⟨q, _, rfl⟩ := List.mem_map.1 hz
            rw [hmk] at hx
            exact hone q x hx
          · obtain ⟨v, hv, _⟩ := cellv n x hx
            rw [hv]; rfl
          · obtain ⟨v, hv, hr⟩ := cellv n x hx
            simp only [hv, Option.getD_some]
            exact hr G hG
        rw [e0] at hsl
        exact hsl
def OpensF (P : Program) (fs : List Field) (off tot : Nat) (α : Type) (ok : α → Prop) (c : α → List AVal) (wt : α → Nat) : Prop :=
  (∀ x, (c x).length = tot) ∧
  ∀ {H : Type} (enc : TypeId × Value → H) (w : World) (m : Nat) (cs : List Value) (xs : List (DataW H × List MemPlace)), xs.length = fs.length → off + tot ≤ cs.length →
    (∀ (i : Nat) (f : Field), fs[i]? = some f → DataW.trod enc P w 0 (fun _ => true) true m f.type ((cs.drop f.offset).take (P.cellsOf f.type)) = xs[i]?) →
    ∃ x : α, ok x ∧ wt x ≤ Rows.uptoBulkAll (xs.map (·.1)) ∧ ∀ (n : Nat) (y : AVal) (v : Value), (c x)[n]? = some y → cs[off + n]? = some v → VR0 w y v
theorem OpensF.nil (off : Nat) : OpensF P [] off 0 Unit (fun _ => True) (fun _ => []) (fun _ => 0) :=
  ⟨fun _ => rfl, fun enc w m cs xs hl _ _ => ⟨(), trivial, Nat.zero_le _, fun n y v hy => by simp at hy⟩⟩
theorem OpensF.cons {f : Field} {fs : List Field} {off k tot : Nat} {α β : Type} {ok : α → Prop} {ok' : β → Prop} {c : α → List AVal} {c' : β → List AVal} {wt : α → Nat} {wt' : β → Nat}
    (h1 : Opens P f.type α ok c wt) (hk : ∀ x, (c x).length = k) (hc : P.cellsOf f.type = k) (ho : f.offset = off) (h2 : OpensF P fs (off + k) tot β ok' c' wt') :
    OpensF P (f :: fs) off (k + tot) (α × β) (fun x => ok x.1 ∧ ok' x.2) (fun x => c x.1 ++ c' x.2) (fun x => wt x.1 + wt' x.2) := by
  refine ⟨fun x => by rw [List.length_append, hk, h2.1], fun {H} enc w m cs xs hl hlen hx => ?_⟩
  cases xs with
  | nil => simp at hl
  | cons x0 xs =>
    have hx0 := hx 0 f rfl
    simp only [List.getElem?_cons_zero] at hx0
    rw [ho, hc] at hx0
    obtain ⟨x, a1, a2, a3, a4⟩ := h1.run enc w m _ x0.1 x0.2 hx0
    obtain ⟨y, b1, b2, b3⟩ := h2.2 enc w m cs xs (by simpa using hl) (by omega) (fun i g hg => by simpa using hx (i + 1) g (by simpa using hg))
    refine ⟨(x, y), ⟨a1, b1⟩, ?_, fun n z v hz hv => ?_⟩
    · simp only [List.map_cons, Rows.uptoBulkAll]
      omega
    · rcases Nat.lt_or_ge n k with hn | hn
      · rw [List.getElem?_append_left (by rw [hk]; exact hn)] at hz
        refine a4 n z v hz ?_
        rw [List.getElem?_take, if_pos hn, List.getElem?_drop]
        exact hv
      · rw [List.getElem?_append_right (by rw [hk]; exact hn), hk] at hz
        refine b3 (n - k) z v hz ?_
        rw [show off + k + (n - k) = off + n by omega]
        exact hv
theorem Opens.struct {fs : Array Field} {tot : Nat} {α : Type} {ok : α → Prop} {c : α → List AVal} {wt : α → Nat} (ht : P.underlying t = some (.struct fs)) (hc : P.cellsOf t = tot) (h : OpensF P fs.toList 0 tot α ok c wt) :
    Opens P t α ok c (fun x => wt x + 1) := by
  refine ⟨fun {H} enc w fuel cs d ps hd => ?_⟩
  obtain ⟨xs, n, _, hx, hl, hxl, hf⟩ := DataW.trod_struct ht hd
  have hd : d = .agg (xs.map (·.1)) := congrArg Prod.fst hx
  subst hd
  obtain ⟨x, h1, h2, h3⟩ := h.2 enc w n cs xs (by simpa using hxl) (by omega) (fun i f hi => hf i f (by simpa using hi))
  refine ⟨x, h1, by simp only [Rows.uptoBulk]; omega, by rw [h.1, hl, hc], fun i y v hy hv => h3 i y v hy (by simpa using hv)⟩
theorem Opens.map {α β : Type} {ok : α → Prop} {c : α → List AVal} {wt : α → Nat} {ok' : β → Prop} {c' : β → List AVal} {wt' : β → Nat} (h : Opens P t α ok c wt) (g : α → β) (h1 : ∀ x, ok x → ok' (g x)) (h2 : ∀ x, c' (g x) = c x) (h3 : ∀ x, wt' (g x) ≤ wt x) :
    Opens P t β ok' c' wt' := by
  refine ⟨fun {H} enc w fuel cs d ps hd => ?_⟩
  obtain ⟨x, a1, a2, a3, a4⟩ := h.run enc w fuel cs d ps hd
  exact ⟨g x, h1 x a1, Nat.le_trans (h3 x) a2, by rw [h2]; exact a3, by rw [h2]; exact a4⟩
end
section
variable {P : Program} {t : TypeId}
def OpensV (P : Program) (t : TypeId) (α : Type) (ok : α → Prop) (mk : α → AVal) (wt : α → Nat) : Prop :=
  ∀ {H : Type} (enc : TypeId × Value → H) (w : World) (base fuel : Nat) (v : Value) (d : DataW H) (ps : List MemPlace), Value.okWide P w .any base t v →
    DataW.trod enc P w 0 (fun _ => true) true fuel t v.cells.toList = some (d, ps) → ∃ x : α, ok x ∧ wt x ≤ Rows.uptoBulk d ∧ VR0 w (mk x) v
theorem Opens.agg {α : Type} {ok : α → Prop} {c : α → List AVal} {wt : α → Nat} {fs : Array Field} (h : Opens P t α ok c wt) (ht : P.underlying t = some (.struct fs)) : OpensV P t α ok (fun x => .agg (c x)) wt := by
  intro H enc w base fuel v d ps hok hd
  unfold Value.okWide at hok
  rw [ht] at hok
  obtain ⟨cs, rfl, hsz, _⟩ := hok
  obtain ⟨x, x1, x2, x3, x4⟩ := h.run enc w fuel cs.toList d ps (by simpa [Value.cells] using hd)
  exact ⟨x, x1, x2, fun G hG => .agg _ _ (by simpa using x3) fun n z u hz hu => x4 n z u hz (by simpa using hu) G hG⟩
theorem Opens.one {α : Type} {ok : α → Prop} {mk : α → AVal} {wt : α → Nat} {u : TypeDesc} (h : Opens P t α ok (fun x => [mk x]) wt) (ht : P.underlying t = some u) (hu : (match u with | .struct _ | .array _ _ => False | _ => True)) : OpensV P t α ok mk wt := by
  intro H enc w base fuel v d ps hok hd
  have hv : v.cells.toList = [v] := by
    cases v <;> first | rfl | skip
    unfold Value.okWide at hok
    rw [ht] at hok
    cases u <;> first | exact hu.elim | (simp [Cell.okWide, Cell.ok, ht] at hok; done)
  rw [hv] at hd
  obtain ⟨x, x1, x2, x3, x4⟩ := h.run enc w fuel [v] d ps hd
  exact ⟨x, x1, x2, x4 0 (mk x) v rfl rfl⟩
def OpensA (P : Program) (ts : List TypeId) (α : Type) (ok : α → Prop) (l : α → List AVal) (wt : α → Nat) : Prop :=
  ∀ {H : Type} (enc : TypeId × Value → H) (w : World) (base : Nat) (vs : List Value) (ds : List (DataW H)) (ps : List MemPlace), (∀ (j : Nat) t v, ts[j]? = some t → vs[j]? = some v → Value.okWide P w .any base t v) →
    DataW.TrodAll enc P w 0 (fun _ => true) true ts vs ds ps → ∃ x : α, ok x ∧ wt x ≤ Rows.uptoBulkAll ds ∧ vs.length = (l x).length ∧ ∀ (n : Nat) (y : AVal) (v : Value), (l x)[n]? = some y → vs[n]? = some v → VR0 w y v
theorem OpensA.nil : OpensA P [] Unit (fun _ => True) (fun _ => []) (fun _ => 0) := by
  intro H enc w base vs ds ps _ h
  obtain ⟨rfl, rfl, rfl⟩ := trodAll_nil h
  exact ⟨(), trivial, Nat.zero_le _, rfl, fun n y v hy => by simp at hy⟩
theorem OpensA.cons {ts : List TypeId} {α β : Type} {ok : α → Prop} {ok' : β → Prop} {mk : α → AVal} {l : β → List AVal} {wt : α → Nat} {wt' : β → Nat} (h1 : OpensV P t α ok mk wt) (h2 : OpensA P ts β ok' l wt') :
    OpensA P (t :: ts) (α × β) (fun x => ok x.1 ∧ ok' x.2) (fun x => mk x.1 :: l x.2) (fun x => wt x.1 + wt' x.2) := by
  intro H enc w base vs ds ps hok h
  obtain ⟨v, vs', d, ds', p, q, rfl, rfl, rfl, ⟨fuel, hd⟩, hr⟩ := trodAll_cons h
  obtain ⟨x, x1, x2, x3⟩ := h1 enc w base fuel v d p (hok 0 t v rfl rfl) hd
  obtain ⟨y, y1, y2, y3, y4⟩ := h2 enc w base vs' ds' q (fun j t' v' ht hv => hok (j + 1) t' v' (by simpa using ht) (by simpa using hv)) hr
  refine ⟨(x, y), ⟨x1, y1⟩, ?_, by simpa using y3, fun n z u hz hu => ?_⟩
  · simp only [Rows.uptoBulkAll]
    omega
  · match n with
    | 0 => simp at hz hu; subst hz; subst hu; exact x3
    | n + 1 => exact y4 n z u (by simpa using hz) (by simpa using hu)
theorem OpensA.map {ts : List TypeId} {α β : Type} {ok : α → Prop} {ok' : β → Prop} {l : α → List AVal} {l' : β → List AVal} {wt : α → Nat} {wt' : β → Nat} (h : OpensA P ts α ok l wt) (g : α → β) (h1 : ∀ x, ok x → ok' (g x)) (h2 : ∀ x, l' (g x) = l x) (h3 : ∀ x, wt' (g x) ≤ wt x) :
    OpensA P ts β ok' l' wt' := by
  intro H enc w base vs ds ps hok ht
  obtain ⟨x, x1, x2, x3, x4⟩ := h enc w base vs ds ps hok ht
  exact ⟨g x, h1 x x1, Nat.le_trans (h3 x) x2, by rw [h2]; exact x3, by rw [h2]; exact x4⟩
end
theorem below_all {H : Type} {enc : TypeId × Value → H} {P : Program} (hl : laidOutB P = true) {W W' : World} (hb : Below W.heap.size W W') : ∀ {ts : List TypeId} {vs : List Value} {ds : List (DataW H)} {ps : List MemPlace}, (∀ t ∈ ts, P.readableRec t = true ∧ t < P.types.size) →
    DataW.TrodAll enc P W 0 (fun _ => true) true ts vs ds ps → (∀ x ∈ ps, x.block < W.heap.size) → DataW.TrodAll enc P W' 0 (fun b => decide (b < W.heap.size)) true ts vs ds ps
  | [], vs, ds, ps, _, h, _ => by
    obtain ⟨rfl, rfl, rfl⟩ := trodAll_nil h
    exact trodAll_mk0
  | t :: ts, vs, ds, ps, hr, h, hlt => by
    obtain ⟨v, vs', d, ds', p, q, rfl, rfl, rfl, hd, hrest⟩ := trodAll_cons h
    have h1 := hr t (by simp)
    exact trodAll_cons_mk (Below.trod hl h1.1 h1.2 hd hb fun x hx => hlt x (by simp [hx])) (below_all hl hb (fun t' ht' => hr t' (by simp [ht'])) hrest fun x hx => hlt x (by simp [hx]))
theorem contract_all {P : Program} {f : FuncId} {fn : Func} {α : Type} {ok : α → Prop} {l : α → List AVal} {wt : α → Nat} {s : ChangeSpec} (hfn : P.funcs[f]? = some fn) (hr : fn.resultTypes = #[4]) (hb : P.underlying 4 = some .bool)
    (hl : laidOutB P = true) (hre : ∀ t ∈ fn.params.toList, P.readableRec t = true ∧ t < P.types.size) (hvars : s.vars = [])
    (hsfn : ∀ (H : Type) (ds : List (DataW H)), ds.length = fn.params.size → s.fn H ds = { results := [.lit (.bool true)], args := ds })
    (ho : OpensA P fn.params.toList α ok l wt) (hEv : ∀ x, ok x → wt x ≤ 1048576 → Ev P f (l x) (.ret (.bool true)))
    (H : Type) (enc : TypeId × Value → H) (W : World) (base : Nat) (args : Array Value) (ds gs : List (DataW H)) (before : List MemPlace)
    (hval : ∀ (j : Nat) t v, fn.params[j]? = some t → args[j]? = some v → Value.okWide P W .any base t v)
    (hW : DataW.Whole enc P fn.params.toList s.vars false W args.toList ds gs before) (hk : Rows.uptoSmall H (ds ++ gs) = true) :
    Calls P f args W fun e W' => ∃ v, e = .returned v ∧ s.post enc P fn false true false false W args v W' := by
  have hW' := hW
  obtain ⟨p, q, hA, hV, rfl, hfz, hnd⟩ := hW
  rw [hvars] at hV
  obtain ⟨rfl, rfl⟩ := trodVars_none hV
  obtain ⟨x, x1, x2, x3, x4⟩ := ho enc W base args.toList ds p (fun j t v ht hv => hval j t v (by simpa using ht) (by simpa using hv)) hA
  have hlen : ds.length = fn.params.size := by
    have : ∀ (ts : List TypeId) (vs : List Value) (ds : List (DataW H)) (ps : List MemPlace), DataW.TrodAll enc P W 0 (fun _ => true) true ts vs ds ps → ds.length = ts.length := by
      intro ts
      induction ts with
      | nil => intro vs ds ps h; obtain ⟨_, rfl, _⟩ := trodAll_nil h; rfl
      | cons t ts ih =>
        intro vs ds ps h
        obtain ⟨v, vs', d, ds', p, q, rfl, rfl, rfl, _, hr⟩ := trodAll_cons h
        simp [ih _ _ _ hr]
    simpa using this _ _ _ _ hA
  have hsmall : Rows.uptoBulkAll ds ≤ 1048576 := by
    have : Rows.uptoBulkAll (ds ++ []) ≤ 1048576 := of_decide_eq_true hk
    simpa using this
  have hcall := (hEv x x1 (by omega)).2 (fun _ => False) W args ⟨fun _ => 0, fun _ _ => .int .i64 0, fun _ => none, fun _ _ => rfl⟩ (fun _ => rfl) (by simpa using x3) (fun i y v hy hv => x4 i y v hy (by simpa using hv) _ (fun _ => rfl)) (fun _ h => h.elim)
  refine hcall.mono ?_
  rintro e W' ⟨G', v', hG', hAdv, he, hr'⟩
  cases hr'
  subst he
  have hbel : Below W.heap.size W W' := ⟨hAdv.os.1, hAdv.tape, hAdv.output, hAdv.size, fun b hb => (hAdv.keep b hb rfl).1⟩
  have hlt : ∀ z ∈ p, z.block < W.heap.size := fun z hz => by simpa using hW'.lt z (by simpa using hz)
  refine ⟨.bool true, rfl, ds, [], p ++ [], [], p, [], hW', ?_, ?_, ?_, hbel.frame _, fun h => by cases h⟩
  · rw [hr, List.append_nil, hsfn H ds hlen]
    exact trodAll_cons_mk (p' := []) (shut_bool hb _) trodAll_mk0
  · rw [List.append_nil, hsfn H ds hlen]
    exact below_all hl hbel hre hA hlt
  · rw [hvars, List.append_nil, hsfn H ds hlen]
    rfl
theorem contract_of {P : Program} {f : FuncId} {fn : Func} {t : TypeId} {fs : Array Field} {α : Type} {ok : α → Prop} {c : α → List AVal} {wt : α → Nat} {s : ChangeSpec} (hfn : P.funcs[f]? = some fn) (hp : fn.params = #[t]) (hr : fn.resultTypes = #[4]) (hb : P.underlying 4 = some .bool)
    (ht : P.underlying t = some (.struct fs)) (hl : laidOutB P = true) (hre : P.readableRec t = true) (hrow : t < P.types.size) (hvars : s.vars = [])
    (hsfn : ∀ (H : Type) (d : DataW H), s.fn H [d] = { results := [.lit (.bool true)], args := [d] })
    (ho : Opens P t α ok c wt) (hEv : ∀ x, ok x → wt x ≤ 1048576 → Ev P f [.agg (c x)] (.ret (.bool true)))
    (H : Type) (enc : TypeId × Value → H) (W : World) (base : Nat) (args : Array Value) (ds gs : List (DataW H)) (before : List MemPlace)
    (hval : ∀ (j : Nat) t v, fn.params[j]? = some t → args[j]? = some v → Value.okWide P W .any base t v)
    (hW : DataW.Whole enc P fn.params.toList s.vars false W args.toList ds gs before) (hk : Rows.uptoSmall H (ds ++ gs) = true) :
    Calls P f args W fun e W' => ∃ v, e = .returned v ∧ s.post enc P fn false true false false W args v W' :=
  contract_all (α := α × Unit) (l := fun x => [.agg (c x.1)]) (wt := fun x => wt x.1 + 0) hfn hr hb hl (by rw [hp]; intro t' h'; simp at h'; subst h'; exact ⟨hre, hrow⟩) hvars
    (fun H ds h => by
      rw [hp] at h
      match ds, h with
      | [d], _ => exact hsfn H d)
    (by rw [hp]; exact OpensA.cons (ho.agg ht) OpensA.nil) (ok := fun x => ok x.1 ∧ True) (fun (x : α × Unit) (hx : ok x.1 ∧ True) hw => hEv x.1 hx.1 hw) H enc W base args ds gs before hval hW hk
end
section
def Bp := (And.intro (And.intro (And.intro (And.intro @opS.eq_1 @opA.eq_1) (And.intro @evs_nil' (And.intro @evs_cons' @evp_nil'))) (And.intro (And.intro @evp_cons' @omap_ev_none) (And.intro @omap_ev_some (And.intro @upd_app @tms_nil')))) (And.intro (And.intro (And.intro @tms_cons' @mms_nil') (And.intro @mms_cons' (And.intro @NoM' @initT'))) (And.intro (And.intro @kill_app @ev.eq_1) (And.intro @ev.eq_2 (And.intro @ev.eq_3 @ev.eq_4)))))
def Bq := (And.intro (And.intro (And.intro (And.intro (And.intro (And.intro (And.intro @initO.eq_1 @Option.map_some.{0, 0}) (And.intro @Option.map_none.{0, 0} @List.map_cons.{0, 0})) (And.intro (And.intro @List.map_nil.{0, 0} @List.getElem?_cons_zero.{0}) (And.intro @List.getElem?_cons_succ.{0} (And.intro @List.getElem?_nil.{0} @List.all_cons.{0})))) (And.intro (And.intro (And.intro @List.all_nil.{0} @List.length_cons.{0}) (And.intro @List.length_nil.{0} (And.intro @List.take_succ_cons.{0} @List.take_zero.{0}))) (And.intro (And.intro @List.drop_succ_cons.{0} @List.drop_zero.{0}) (And.intro @List.set_cons_zero.{0} (And.intro @List.set_cons_succ.{0} @List.cons_append.{0}))))) (And.intro (And.intro (And.intro (And.intro @List.nil_append.{0} @List.append_nil.{0}) (And.intro @List.toList_toArray.{0} (And.intro @loadA.eq_1 @storeA.eq_1))) (And.intro (And.intro @fieldAddrA.eq_1 @buildA.eq_1) (And.intro @placeS.eq_1 (And.intro @partA.eq_1 @convA.eq_1)))) (And.intro (And.intro (And.intro @lenA.eq_1 @appendA.eq_1) (And.intro @buildSliceA.eq_1 (And.intro @TyI.zeros.eq_1 @TyI.zeroElem.eq_1))) (And.intro (And.intro @TyI.okElem.eq_1 @splice.eq_1) (And.intro @if_true.{0} (And.intro @if_false.{0} @Bool.false_eq_true)))))) (And.intro (And.intro (And.intro (And.intro (And.intro @false_implies @true_implies) (And.intro @implies_true.{0} (And.intro @true_and @and_true))) (And.intro (And.intro @and_self @ne_eq.{0}) (And.intro @not_true (And.intro @not_false_iff @Bool.and_true)))) (And.intro (And.intro (And.intro @Bool.true_and @Bool.and_false) (And.intro @Bool.false_and (And.intro @Bool.or_true @Bool.true_or))) (And.intro (And.intro @Bool.or_false @Bool.false_or) (And.intro @Bool.not_true (And.intro @Bool.not_false @beq_self_eq_true.{0}))))) (And.intro (And.intro (And.intro (And.intro @Nat.mul_one @Nat.le_refl) (And.intro @Nat.zero_add (And.intro @Nat.add_zero @Option.isSome_some.{0}))) (And.intro (And.intro @decide_true @decide_false) (And.intro @pick_bool (And.intro @pick_int @List.replicate_succ.{0})))) (And.intro (And.intro (And.intro @List.replicate_zero.{0} @List.flatMap_cons.{0, 0}) (And.intro @List.flatMap_nil.{0, 0} (And.intro @flat.eq_1 @Array.size_empty.{0}))) (And.intro (And.intro @dchk.eq_1 @List.contains_cons.{0}) (And.intro @List.contains_nil.{0} (And.intro @List.isEmpty_nil.{0} @List.isEmpty_cons.{0}))))))) (And.intro (And.intro (And.intro (And.intro (And.intro (And.intro @Int.toNat_natCast @Int.natCast_nonneg) (And.intro @wrap_half (And.intro @wrap_succ @wrap_pred))) (And.intro (And.intro @wrap_add @wrap_ok) (And.intro @dT (And.intro @dF @ltT)))) (And.intro (And.intro (And.intro @ltF @leT) (And.intro @leF (And.intro @ltTN @ltFN))) (And.intro (And.intro @leTN @leFN) (And.intro @encL_len (And.intro @encL_get @Enc.enc.eq_1))))) (And.intro (And.intro (And.intro (And.intro @Nat.sub_zero @List.length_take.{0}) (And.intro @List.length_drop.{0} (And.intro @List.take_length.{0} @Option.getD.eq_1.{0}))) (And.intro (And.intro @Option.getD.eq_2.{0} @boxA.eq_1) (And.intro @boxA.eq_2 (And.intro @fillA.eq_1 @fillA.eq_2)))) (And.intro (And.intro (And.intro @setP.eq_1 @setP.eq_2) (And.intro @rkOk.eq_1 (And.intro @rkOk.eq_2 @rkOk.eq_3))) (And.intro (And.intro @clsO.eq_1 @clsO.eq_2) (And.intro @Go.Op.operands.eq_1 (And.intro @Go.Op.operands.eq_2 @Go.Op.operands.eq_3)))))) (And.intro (And.intro (And.intro (And.intro (And.intro @Go.Op.operands.eq_4 @Go.Op.operands.eq_5) (And.intro @Go.Op.operands.eq_6 (And.intro @Go.Op.operands.eq_7 @Go.Op.operands.eq_8))) (And.intro (And.intro @Go.Op.operands.eq_9 @Go.Op.operands.eq_10) (And.intro @Go.Op.operands.eq_11 (And.intro @Go.Op.operands.eq_12 @Go.Op.operands.eq_13)))) (And.intro (And.intro (And.intro @Go.Op.operands.eq_14 @Go.Op.operands.eq_15) (And.intro @Go.Op.operands.eq_16 (And.intro @Go.Op.operands.eq_17 @Go.Op.operands.eq_18))) (And.intro (And.intro @Go.Op.operands.eq_19 @Go.Op.operands.eq_20) (And.intro @Go.Op.operands.eq_21 (And.intro @Go.Op.operands.eq_22 @Go.Op.operands.eq_23))))) (And.intro (And.intro (And.intro (And.intro @Go.Op.operands.eq_24 @Go.Op.operands.eq_25) (And.intro @Go.Op.operands.eq_26 (And.intro @Go.Op.operands.eq_27 @Go.Op.operands.eq_28))) (And.intro (And.intro @Go.Op.operands.eq_29 @Go.Op.operands.eq_30) (And.intro @Go.Op.operands.eq_31 (And.intro @Go.Op.operands.eq_32 @Go.Op.operands.eq_33)))) (And.intro (And.intro (And.intro @Go.Op.operands.eq_34 @Go.Op.operands.eq_35) (And.intro @Go.Op.operands.eq_36 (And.intro @Go.Op.operands.eq_37 @Go.Op.operands.eq_38))) (And.intro (And.intro @Go.Op.operands.eq_39 @Go.Op.operands.eq_40) (And.intro @Go.Op.operands.eq_41 (And.intro @Go.Op.operands.eq_42 @Go.Op.operands.eq_43))))))))
def Br := (And.intro (And.intro (And.intro @rstr_nil @rstr_cons) (And.intro @upd_app (And.intro @tms_nil' @tms_cons'))) (And.intro (And.intro @NoM' @initT') (And.intro @List.getElem?_cons_zero.{0} (And.intro @List.getElem?_cons_succ.{0} @List.getElem?_nil.{0}))))
def Bh := (And.intro (And.intro (And.intro @decide_eq_true_eq @decide_eq_false_iff_not) (And.intro @Bool.not_eq_true' @Bool.not_eq_false')) (And.intro (And.intro @Bool.and_eq_true @Bool.or_eq_true) (And.intro @Bool.and_eq_false_iff (And.intro @Bool.or_eq_false_iff @Classical.not_not))))
section
variable {E : Env} {d : Bool} {RK : Option (List Nat × (Nat → Bool))} {Q : Ex → AS → Prop} {r : List SOp} {T : Tmps} {M : Mem} {dst : Option Tmp} {op : Op} {n : Nat} {K : Kont} {x y : SC} {s : AS}
theorem dv {v : AVal} {ups : List (Nat × ABlk)} {s' : AS} (hp : plainOp op = true) (h : opS E.TE E.EQ ⟨T, M⟩ dst op = some (v, ups)) (hc : dchk d RK dst op T ups = true) (hs : AS.put ⟨T, ap M ups⟩ dst v = s') (k : awpOps E d RK Q r s') : awpOps E d RK Q (⟨dst, op, none⟩ :: r) ⟨T, M⟩ := awp_op2 hp h hc hs k
theorem dg {t u : Tmp} {b : Bool} {x : AVal} (h : T t = x) (k : GuardG x b (awpOps E d RK Q (⟨some u, op, none⟩ :: r) ⟨T, M⟩) (awpOps E d RK Q r ⟨upd T u (.tup []), M⟩)) : awpOps E d RK Q (⟨some u, op, some (some t, b)⟩ :: r) ⟨T, M⟩ := awp_g h k
theorem dg0 {t : Tmp} {b : Bool} {x : AVal} (h : T t = x) (k : GuardG x b (awpOps E d RK Q (⟨none, op, none⟩ :: r) ⟨T, M⟩) (awpOps E d RK Q r ⟨T, M⟩)) : awpOps E d RK Q (⟨none, op, some (some t, b)⟩ :: r) ⟨T, M⟩ := awp_g0 h k
theorem dc {o : Operand} {v : AVal} (h : ev s.T o = v) (k : CondG v (Run E n Q x K s) (Run E n Q y K s)) : Run E n Q (.cond o x y) K s := Run.condG h k
end
end
def teL : List (Nat × TyI) := [
  (0, ⟨.other, 1, 0, .tuple ([]).toArray⟩),
  (1, ⟨.func, 1, 8, .nilFunc⟩),
  (2, ⟨.int .i64, 1, 8, .int .i64 0⟩),
  (3, ⟨.int .i64, 1, 8, .int .i64 0⟩),
  (4, ⟨.bool, 1, 1, .bool false⟩),
  (5, ⟨.int .u8, 1, 1, .int .u8 0⟩),
  (6, ⟨.int .u8, 1, 1, .int .u8 0⟩),
  (7, ⟨.struct [(2, 0), (3, 1), (4, 2), (6, 3)], 4, 24, .agg ([.int .i64 0, .int .i64 0, .bool false, .int .u8 0]).toArray⟩),
  (8, ⟨.struct [(2, 0), (3, 1), (4, 2), (6, 3)], 4, 24, .agg ([.int .i64 0, .int .i64 0, .bool false, .int .u8 0]).toArray⟩),
  (9, ⟨.str, 1, 16, .string ByteArray.empty⟩),
  (10, ⟨.str, 1, 16, .string ByteArray.empty⟩),
  (11, ⟨.str, 1, 16, .string ByteArray.empty⟩),
  (12, ⟨.int .u64, 1, 8, .int .u64 0⟩),
  (13, ⟨.struct [(9, 0), (12, 1)], 2, 24, .agg ([.string ByteArray.empty, .int .u64 0]).toArray⟩),
  (14, ⟨.struct [(9, 0), (12, 1)], 2, 24, .agg ([.string ByteArray.empty, .int .u64 0]).toArray⟩),
  (15, ⟨.ptr 212, 1, 8, .pointer none⟩),
  (16, ⟨.ptr 215, 1, 8, .pointer none⟩),
  (17, ⟨.ptr 223, 1, 8, .pointer none⟩),
  (18, ⟨.struct [(17, 0)], 1, 8, .agg ([.pointer none]).toArray⟩),
  (19, ⟨.struct [(17, 0)], 1, 8, .agg ([.pointer none]).toArray⟩),
  (20, ⟨.iface, 1, 16, .nilIface⟩),
  (21, ⟨.int .i32, 1, 4, .int .i32 0⟩),
  (22, ⟨.slice 39, 1, 24, .slice none 0 0⟩),
  (23, ⟨.slice 49, 1, 24, .slice none 0 0⟩),
  (24, ⟨.slice 3, 1, 24, .slice none 0 0⟩),
  (25, ⟨.slice 89, 1, 24, .slice none 0 0⟩),
  (26, ⟨.struct [(24, 0), (25, 1)], 2, 48, .agg ([.slice none 0 0, .slice none 0 0]).toArray⟩),
  (27, ⟨.struct [(24, 0), (25, 1)], 2, 48, .agg ([.slice none 0 0, .slice none 0 0]).toArray⟩),
  (28, ⟨.struct [(22, 0), (22, 1), (23, 2), (23, 3), (27, 4), (27, 6)], 8, 192, .agg ([.slice none 0 0, .slice none 0 0, .slice none 0 0, .slice none 0 0, .slice none 0 0, .slice none 0 0, .slice none 0 0, .slice none 0 0]).toArray⟩),
  (29, ⟨.struct [(22, 0), (22, 1), (23, 2), (23, 3), (27, 4), (27, 6)], 8, 192, .agg ([.slice none 0 0, .slice none 0 0, .slice none 0 0, .slice none 0 0, .slice none 0 0, .slice none 0 0, .slice none 0 0, .slice none 0 0]).toArray⟩),
  (30, ⟨.func, 1, 8, .nilFunc⟩),
  (31, ⟨.slice 22, 1, 24, .slice none 0 0⟩),
  (32, ⟨.int .i64, 1, 8, .int .i64 0⟩),
  (33, ⟨.other, 1, 0, .tuple ([.slice none 0 0, .int .i64 0]).toArray⟩),
  (34, ⟨.func, 1, 8, .nilFunc⟩),
  (35, ⟨.func, 1, 8, .nilFunc⟩),
  (36, ⟨.func, 1, 8, .nilFunc⟩),
  (37, ⟨.func, 1, 8, .nilFunc⟩),
  (38, ⟨.struct [(9, 0), (27, 1)], 3, 64, .agg ([.string ByteArray.empty, .slice none 0 0, .slice none 0 0]).toArray⟩),
  (39, ⟨.struct [(9, 0), (27, 1)], 3, 64, .agg ([.string ByteArray.empty, .slice none 0 0, .slice none 0 0]).toArray⟩),
  (40, ⟨.func, 1, 8, .nilFunc⟩),
  (41, ⟨.func, 1, 8, .nilFunc⟩),
  (42, ⟨.other, 1, 0, .tuple ([.slice none 0 0, .int .i64 0]).toArray⟩),
  (43, ⟨.func, 1, 8, .nilFunc⟩),
  (44, ⟨.func, 1, 8, .nilFunc⟩),
  (45, ⟨.func, 1, 8, .nilFunc⟩),
  (46, ⟨.struct [(3, 0), (3, 1)], 2, 16, .agg ([.int .i64 0, .int .i64 0]).toArray⟩),
  (47, ⟨.struct [(3, 0), (3, 1)], 2, 16, .agg ([.int .i64 0, .int .i64 0]).toArray⟩),
  (48, ⟨.struct [(47, 0), (9, 2), (3, 3)], 4, 40, .agg ([.int .i64 0, .int .i64 0, .string ByteArray.empty, .int .i64 0]).toArray⟩),
  (49, ⟨.struct [(47, 0), (9, 2), (3, 3)], 4, 40, .agg ([.int .i64 0, .int .i64 0, .string ByteArray.empty, .int .i64 0]).toArray⟩),
  (50, ⟨.func, 1, 8, .nilFunc⟩),
  (51, ⟨.slice 47, 1, 24, .slice none 0 0⟩),
  (52, ⟨.other, 1, 0, .tuple ([.slice none 0 0, .bool false]).toArray⟩),
  (53, ⟨.func, 1, 8, .nilFunc⟩),
  (54, ⟨.func, 1, 8, .nilFunc⟩),
  (55, ⟨.func, 1, 8, .nilFunc⟩),
  (56, ⟨.func, 1, 8, .nilFunc⟩),
  (57, ⟨.func, 1, 8, .nilFunc⟩),
  (58, ⟨.func, 1, 8, .nilFunc⟩),
  (59, ⟨.func, 1, 8, .nilFunc⟩),
  (60, ⟨.func, 1, 8, .nilFunc⟩),
  (61, ⟨.func, 1, 8, .nilFunc⟩),
  (62, ⟨.func, 1, 8, .nilFunc⟩),
  (63, ⟨.func, 1, 8, .nilFunc⟩),
  (64, ⟨.func, 1, 8, .nilFunc⟩),
  (65, ⟨.arr 4 22, 4, 96, .agg ([.slice none 0 0, .slice none 0 0, .slice none 0 0, .slice none 0 0]).toArray⟩),
  (66, ⟨.arr 2 23, 2, 48, .agg ([.slice none 0 0, .slice none 0 0]).toArray⟩),
  (67, ⟨.arr 6 32, 6, 48, .agg ([.int .i64 0, .int .i64 0, .int .i64 0, .int .i64 0, .int .i64 0, .int .i64 0]).toArray⟩),
  (68, ⟨.arr 12 3, 12, 96, .agg ([.int .i64 0, .int .i64 0, .int .i64 0, .int .i64 0, .int .i64 0, .int .i64 0, .int .i64 0, .int .i64 0, .int .i64 0, .int .i64 0, .int .i64 0, .int .i64 0]).toArray⟩),
  (69, ⟨.struct [(65, 0), (66, 4), (67, 6), (68, 12)], 24, 288, .agg ([.slice none 0 0, .slice none 0 0, .slice none 0 0, .slice none 0 0, .slice none 0 0, .slice none 0 0, .int .i64 0, .int .i64 0, .int .i64 0, .int .i64 0, .int .i64 0, .int .i64 0, .int .i64 0, .int .i64 0, .int .i64 0, .int .i64 0, .int .i64 0, .int .i64 0, .int .i64 0, .int .i64 0, .int .i64 0, .int .i64 0, .int .i64 0, .int .i64 0]).toArray⟩),
  (70, ⟨.struct [(65, 0), (66, 4), (67, 6), (68, 12)], 24, 288, .agg ([.slice none 0 0, .slice none 0 0, .slice none 0 0, .slice none 0 0, .slice none 0 0, .slice none 0 0, .int .i64 0, .int .i64 0, .int .i64 0, .int .i64 0, .int .i64 0, .int .i64 0, .int .i64 0, .int .i64 0, .int .i64 0, .int .i64 0, .int .i64 0, .int .i64 0, .int .i64 0, .int .i64 0, .int .i64 0, .int .i64 0, .int .i64 0, .int .i64 0]).toArray⟩),
  (71, ⟨.func, 1, 8, .nilFunc⟩),
  (72, ⟨.slice 24, 1, 24, .slice none 0 0⟩),
  (73, ⟨.slice 25, 1, 24, .slice none 0 0⟩),
  (74, ⟨.struct [(72, 0), (73, 1)], 2, 48, .agg ([.slice none 0 0, .slice none 0 0]).toArray⟩),
  (75, ⟨.struct [(72, 0), (73, 1)], 2, 48, .agg ([.slice none 0 0, .slice none 0 0]).toArray⟩),
  (76, ⟨.func, 1, 8, .nilFunc⟩),
  (77, ⟨.func, 1, 8, .nilFunc⟩),
  (78, ⟨.func, 1, 8, .nilFunc⟩),
  (79, ⟨.func, 1, 8, .nilFunc⟩),
  (80, ⟨.slice 51, 1, 24, .slice none 0 0⟩),
  (81, ⟨.slice 159, 1, 24, .slice none 0 0⟩),
  (82, ⟨.slice 23, 1, 24, .slice none 0 0⟩),
  (83, ⟨.slice 163, 1, 24, .slice none 0 0⟩),
  (84, ⟨.struct [(72, 0), (73, 1), (80, 2), (81, 3), (82, 4), (31, 5), (83, 6), (3, 7)], 8, 176, .agg ([.slice none 0 0, .slice none 0 0, .slice none 0 0, .slice none 0 0, .slice none 0 0, .slice none 0 0, .slice none 0 0, .int .i64 0]).toArray⟩),
  (85, ⟨.struct [(72, 0), (73, 1), (80, 2), (81, 3), (82, 4), (31, 5), (83, 6), (3, 7)], 8, 176, .agg ([.slice none 0 0, .slice none 0 0, .slice none 0 0, .slice none 0 0, .slice none 0 0, .slice none 0 0, .slice none 0 0, .int .i64 0]).toArray⟩),
  (86, ⟨.func, 1, 8, .nilFunc⟩),
  (87, ⟨.ptr 85, 1, 8, .pointer none⟩),
  (88, ⟨.struct [(3, 0), (3, 1), (3, 2)], 3, 24, .agg ([.int .i64 0, .int .i64 0, .int .i64 0]).toArray⟩),
  (89, ⟨.struct [(3, 0), (3, 1), (3, 2)], 3, 24, .agg ([.int .i64 0, .int .i64 0, .int .i64 0]).toArray⟩),
  (90, ⟨.func, 1, 8, .nilFunc⟩),
  (91, ⟨.func, 1, 8, .nilFunc⟩),
  (92, ⟨.func, 1, 8, .nilFunc⟩),
  (93, ⟨.func, 1, 8, .nilFunc⟩),
  (94, ⟨.func, 1, 8, .nilFunc⟩),
  (95, ⟨.func, 1, 8, .nilFunc⟩),
  (96, ⟨.func, 1, 8, .nilFunc⟩),
  (97, ⟨.func, 1, 8, .nilFunc⟩),
  (98, ⟨.func, 1, 8, .nilFunc⟩),
  (99, ⟨.func, 1, 8, .nilFunc⟩),
  (100, ⟨.func, 1, 8, .nilFunc⟩),
  (101, ⟨.slice 27, 1, 24, .slice none 0 0⟩),
  (102, ⟨.func, 1, 8, .nilFunc⟩),
  (103, ⟨.arr 16 24, 16, 384, .agg ([.slice none 0 0, .slice none 0 0, .slice none 0 0, .slice none 0 0, .slice none 0 0, .slice none 0 0, .slice none 0 0, .slice none 0 0, .slice none 0 0, .slice none 0 0, .slice none 0 0, .slice none 0 0, .slice none 0 0, .slice none 0 0, .slice none 0 0, .slice none 0 0]).toArray⟩),
  (104, ⟨.struct [(103, 0)], 16, 384, .agg ([.slice none 0 0, .slice none 0 0, .slice none 0 0, .slice none 0 0, .slice none 0 0, .slice none 0 0, .slice none 0 0, .slice none 0 0, .slice none 0 0, .slice none 0 0, .slice none 0 0, .slice none 0 0, .slice none 0 0, .slice none 0 0, .slice none 0 0, .slice none 0 0]).toArray⟩),
  (105, ⟨.struct [(103, 0)], 16, 384, .agg ([.slice none 0 0, .slice none 0 0, .slice none 0 0, .slice none 0 0, .slice none 0 0, .slice none 0 0, .slice none 0 0, .slice none 0 0, .slice none 0 0, .slice none 0 0, .slice none 0 0, .slice none 0 0, .slice none 0 0, .slice none 0 0, .slice none 0 0, .slice none 0 0]).toArray⟩),
  (106, ⟨.func, 1, 8, .nilFunc⟩),
  (107, ⟨.func, 1, 8, .nilFunc⟩),
  (108, ⟨.func, 1, 8, .nilFunc⟩),
  (109, ⟨.func, 1, 8, .nilFunc⟩),
  (110, ⟨.func, 1, 8, .nilFunc⟩),
  (111, ⟨.func, 1, 8, .nilFunc⟩),
  (112, ⟨.func, 1, 8, .nilFunc⟩),
  (113, ⟨.func, 1, 8, .nilFunc⟩),
  (114, ⟨.func, 1, 8, .nilFunc⟩),
  (115, ⟨.ptr 120, 1, 8, .pointer none⟩),
  (116, ⟨.func, 1, 8, .nilFunc⟩),
  (117, ⟨.func, 1, 8, .nilFunc⟩),
  (118, ⟨.slice 150, 1, 24, .slice none 0 0⟩),
  (119, ⟨.arr 16 118, 16, 384, .agg ([.slice none 0 0, .slice none 0 0, .slice none 0 0, .slice none 0 0, .slice none 0 0, .slice none 0 0, .slice none 0 0, .slice none 0 0, .slice none 0 0, .slice none 0 0, .slice none 0 0, .slice none 0 0, .slice none 0 0, .slice none 0 0, .slice none 0 0, .slice none 0 0]).toArray⟩),
  (120, ⟨.arr 16 118, 16, 384, .agg ([.slice none 0 0, .slice none 0 0, .slice none 0 0, .slice none 0 0, .slice none 0 0, .slice none 0 0, .slice none 0 0, .slice none 0 0, .slice none 0 0, .slice none 0 0, .slice none 0 0, .slice none 0 0, .slice none 0 0, .slice none 0 0, .slice none 0 0, .slice none 0 0]).toArray⟩),
  (121, ⟨.func, 1, 8, .nilFunc⟩),
  (122, ⟨.func, 1, 8, .nilFunc⟩),
  (123, ⟨.func, 1, 8, .nilFunc⟩),
  (124, ⟨.func, 1, 8, .nilFunc⟩),
  (125, ⟨.func, 1, 8, .nilFunc⟩),
  (126, ⟨.other, 1, 0, .tuple ([.int .i64 0, .int .i64 0]).toArray⟩),
  (127, ⟨.func, 1, 8, .nilFunc⟩),
  (128, ⟨.func, 1, 8, .nilFunc⟩),
  (129, ⟨.func, 1, 8, .nilFunc⟩),
  (130, ⟨.func, 1, 8, .nilFunc⟩),
  (131, ⟨.int .u64, 1, 8, .int .u64 0⟩),
  (132, ⟨.other, 1, 0, .tuple ([.int .i64 0, .int .i64 0]).toArray⟩),
  (133, ⟨.func, 1, 8, .nilFunc⟩),
  (134, ⟨.func, 1, 8, .nilFunc⟩),
  (135, ⟨.func, 1, 8, .nilFunc⟩),
  (136, ⟨.func, 1, 8, .nilFunc⟩),
  (137, ⟨.func, 1, 8, .nilFunc⟩),
  (138, ⟨.func, 1, 8, .nilFunc⟩),
  (139, ⟨.func, 1, 8, .nilFunc⟩),
  (140, ⟨.func, 1, 8, .nilFunc⟩),
  (141, ⟨.func, 1, 8, .nilFunc⟩),
  (142, ⟨.func, 1, 8, .nilFunc⟩),
  (143, ⟨.func, 1, 8, .nilFunc⟩),
  (144, ⟨.func, 1, 8, .nilFunc⟩),
  (145, ⟨.func, 1, 8, .nilFunc⟩),
  (146, ⟨.func, 1, 8, .nilFunc⟩),
  (147, ⟨.func, 1, 8, .nilFunc⟩),
  (148, ⟨.func, 1, 8, .nilFunc⟩),
  (149, ⟨.struct [(3, 0), (3, 1)], 2, 16, .agg ([.int .i64 0, .int .i64 0]).toArray⟩),
  (150, ⟨.struct [(3, 0), (3, 1)], 2, 16, .agg ([.int .i64 0, .int .i64 0]).toArray⟩),
  (151, ⟨.other, 1, 0, .tuple ([.int .i64 0, .slice none 0 0]).toArray⟩),
  (152, ⟨.func, 1, 8, .nilFunc⟩),
  (153, ⟨.func, 1, 8, .nilFunc⟩),
  (154, ⟨.func, 1, 8, .nilFunc⟩),
  (155, ⟨.func, 1, 8, .nilFunc⟩),
  (156, ⟨.func, 1, 8, .nilFunc⟩),
  (157, ⟨.func, 1, 8, .nilFunc⟩),
  (158, ⟨.func, 1, 8, .nilFunc⟩),
  (159, ⟨.slice 5, 1, 24, .slice none 0 0⟩),
  (160, ⟨.func, 1, 8, .nilFunc⟩),
  (161, ⟨.func, 1, 8, .nilFunc⟩),
  (162, ⟨.func, 1, 8, .nilFunc⟩),
  (163, ⟨.slice 165, 1, 24, .slice none 0 0⟩),
  (164, ⟨.struct [(9, 0), (3, 1), (3, 2)], 3, 32, .agg ([.string ByteArray.empty, .int .i64 0, .int .i64 0]).toArray⟩),
  (165, ⟨.struct [(9, 0), (3, 1), (3, 2)], 3, 32, .agg ([.string ByteArray.empty, .int .i64 0, .int .i64 0]).toArray⟩),
  (166, ⟨.func, 1, 8, .nilFunc⟩),
  (167, ⟨.func, 1, 8, .nilFunc⟩),
  (168, ⟨.func, 1, 8, .nilFunc⟩),
  (169, ⟨.func, 1, 8, .nilFunc⟩),
  (170, ⟨.int .i64, 1, 8, .int .i64 0⟩),
  (171, ⟨.other, 1, 0, .tuple ([.int .i64 0, .int .i64 0]).toArray⟩),
  (172, ⟨.func, 1, 8, .nilFunc⟩),
  (173, ⟨.func, 1, 8, .nilFunc⟩),
  (174, ⟨.func, 1, 8, .nilFunc⟩),
  (175, ⟨.other, 1, 0, .tuple ([.int .i64 0, .bool false]).toArray⟩),
  (176, ⟨.func, 1, 8, .nilFunc⟩),
  (177, ⟨.func, 1, 8, .nilFunc⟩),
  (178, ⟨.int .u32, 1, 4, .int .u32 0⟩),
  (179, ⟨.func, 1, 8, .nilFunc⟩),
  (180, ⟨.int .u64, 1, 8, .int .u64 0⟩),
  (181, ⟨.func, 1, 8, .nilFunc⟩),
  (182, ⟨.func, 1, 8, .nilFunc⟩),
  (183, ⟨.func, 1, 8, .nilFunc⟩),
  (184, ⟨.func, 1, 8, .nilFunc⟩),
  (185, ⟨.func, 1, 8, .nilFunc⟩),
  (186, ⟨.int .u64, 1, 8, .int .u64 0⟩),
  (187, ⟨.func, 1, 8, .nilFunc⟩),
  (188, ⟨.func, 1, 8, .nilFunc⟩),
  (189, ⟨.func, 1, 8, .nilFunc⟩),
  (190, ⟨.ptr 3, 1, 8, .pointer none⟩),
  (191, ⟨.func, 1, 8, .nilFunc⟩),
  (192, ⟨.func, 1, 8, .nilFunc⟩),
  (193, ⟨.ptr 186, 1, 8, .pointer none⟩),
  (194, ⟨.func, 1, 8, .nilFunc⟩),
  (195, ⟨.slice 118, 1, 24, .slice none 0 0⟩),
  (197, ⟨.func, 1, 8, .nilFunc⟩),
  (198, ⟨.func, 1, 8, .nilFunc⟩),
  (199, ⟨.func, 1, 8, .nilFunc⟩),
  (200, ⟨.func, 1, 8, .nilFunc⟩),
  (201, ⟨.func, 1, 8, .nilFunc⟩),
  (202, ⟨.func, 1, 8, .nilFunc⟩),
  (203, ⟨.func, 1, 8, .nilFunc⟩),
  (204, ⟨.func, 1, 8, .nilFunc⟩),
  (205, ⟨.func, 1, 8, .nilFunc⟩),
  (206, ⟨.func, 1, 8, .nilFunc⟩),
  (207, ⟨.func, 1, 8, .nilFunc⟩),
  (208, ⟨.func, 1, 8, .nilFunc⟩),
  (209, ⟨.func, 1, 8, .nilFunc⟩),
  (210, ⟨.func, 1, 8, .nilFunc⟩),
  (211, ⟨.struct [(17, 0), (17, 1), (17, 2), (9, 3)], 4, 40, .agg ([.pointer none, .pointer none, .pointer none, .string ByteArray.empty]).toArray⟩),
  (212, ⟨.struct [(17, 0), (17, 1), (17, 2), (9, 3)], 4, 40, .agg ([.pointer none, .pointer none, .pointer none, .string ByteArray.empty]).toArray⟩),
  (213, ⟨.arr 0 16, 0, 0, .agg ([]).toArray⟩),
  (214, ⟨.struct [(213, 0)], 0, 0, .agg ([]).toArray⟩),
  (215, ⟨.struct [(213, 0)], 0, 0, .agg ([]).toArray⟩),
  (216, ⟨.int .u8, 1, 1, .int .u8 0⟩),
  (217, ⟨.int .u8, 1, 1, .int .u8 0⟩),
  (218, ⟨.func, 1, 8, .nilFunc⟩),
  (219, ⟨.ptr 5, 1, 8, .pointer none⟩),
  (220, ⟨.int .i32, 1, 4, .int .i32 0⟩),
  (221, ⟨.int .i32, 1, 4, .int .i32 0⟩),
  (222, ⟨.struct [(12, 0), (12, 1), (178, 2), (216, 3), (5, 4), (5, 5), (217, 6), (218, 7), (219, 8), (220, 9), (221, 10)], 11, 48, .agg ([.int .u64 0, .int .u64 0, .int .u32 0, .int .u8 0, .int .u8 0, .int .u8 0, .int .u8 0, .nilFunc, .pointer none, .int .i32 0, .int .i32 0]).toArray⟩),
  (223, ⟨.struct [(12, 0), (12, 1), (178, 2), (216, 3), (5, 4), (5, 5), (217, 6), (218, 7), (219, 8), (220, 9), (221, 10)], 11, 48, .agg ([.int .u64 0, .int .u64 0, .int .u32 0, .int .u8 0, .int .u8 0, .int .u8 0, .int .u8 0, .nilFunc, .pointer none, .int .i32 0, .int .i32 0]).toArray⟩),
  (224, ⟨.other, 1, 8, .pointer none⟩)]
def TE0 (t : TypeId) : Option TyI := tyOf teL t
theorem teL_ok : TyOk Tryz.prog (tyOf teL) := tyOk_of (by kernel_rfl) (by kernel_rfl)
theorem TE_0 : TE0 0 = some ⟨.other, 1, 0, .tuple ([]).toArray⟩ := rfl
theorem TE_1 : TE0 1 = some ⟨.func, 1, 8, .nilFunc⟩ := rfl
theorem TE_2 : TE0 2 = some ⟨.int .i64, 1, 8, .int .i64 0⟩ := rfl
theorem TE_3 : TE0 3 = some ⟨.int .i64, 1, 8, .int .i64 0⟩ := rfl
theorem TE_4 : TE0 4 = some ⟨.bool, 1, 1, .bool false⟩ := rfl
theorem TE_5 : TE0 5 = some ⟨.int .u8, 1, 1, .int .u8 0⟩ := rfl
theorem TE_6 : TE0 6 = some ⟨.int .u8, 1, 1, .int .u8 0⟩ := rfl
theorem TE_7 : TE0 7 = some ⟨.struct [(2, 0), (3, 1), (4, 2), (6, 3)], 4, 24, .agg ([.int .i64 0, .int .i64 0, .bool false, .int .u8 0]).toArray⟩ := rfl
theorem TE_8 : TE0 8 = some ⟨.struct [(2, 0), (3, 1), (4, 2), (6, 3)], 4, 24, .agg ([.int .i64 0, .int .i64 0, .bool false, .int .u8 0]).toArray⟩ := rfl
theorem TE_9 : TE0 9 = some ⟨.str, 1, 16, .string ByteArray.empty⟩ := rfl
theorem TE_10 : TE0 10 = some ⟨.str, 1, 16, .string ByteArray.empty⟩ := rfl
theorem TE_11 : TE0 11 = some ⟨.str, 1, 16, .string ByteArray.empty⟩ := rfl
theorem TE_12 : TE0 12 = some ⟨.int .u64, 1, 8, .int .u64 0⟩ := rfl
theorem TE_13 : TE0 13 = some ⟨.struct [(9, 0), (12, 1)], 2, 24, .agg ([.string ByteArray.empty, .int .u64 0]).toArray⟩ := rfl
theorem TE_14 : TE0 14 = some ⟨.struct [(9, 0), (12, 1)], 2, 24, .agg ([.string ByteArray.empty, .int .u64 0]).toArray⟩ := rfl
theorem TE_15 : TE0 15 = some ⟨.ptr 212, 1, 8, .pointer none⟩ := rfl
theorem TE_16 : TE0 16 = some ⟨.ptr 215, 1, 8, .pointer none⟩ := rfl
theorem TE_17 : TE0 17 = some ⟨.ptr 223, 1, 8, .pointer none⟩ := rfl
theorem TE_18 : TE0 18 = some ⟨.struct [(17, 0)], 1, 8, .agg ([.pointer none]).toArray⟩ := rfl
theorem TE_19 : TE0 19 = some ⟨.struct [(17, 0)], 1, 8, .agg ([.pointer none]).toArray⟩ := rfl
theorem TE_20 : TE0 20 = some ⟨.iface, 1, 16, .nilIface⟩ := rfl
theorem TE_21 : TE0 21 = some ⟨.int .i32, 1, 4, .int .i32 0⟩ := rfl
theorem TE_22 : TE0 22 = some ⟨.slice 39, 1, 24, .slice none 0 0⟩ := rfl
theorem TE_23 : TE0 23 = some ⟨.slice 49, 1, 24, .slice none 0 0⟩ := rfl
theorem TE_24 : TE0 24 = some ⟨.slice 3, 1, 24, .slice none 0 0⟩ := rfl
theorem TE_25 : TE0 25 = some ⟨.slice 89, 1, 24, .slice none 0 0⟩ := rfl
theorem TE_26 : TE0 26 = some ⟨.struct [(24, 0), (25, 1)], 2, 48, .agg ([.slice none 0 0, .slice none 0 0]).toArray⟩ := rfl
theorem TE_27 : TE0 27 = some ⟨.struct [(24, 0), (25, 1)], 2, 48, .agg ([.slice none 0 0, .slice none 0 0]).toArray⟩ := rfl
theorem TE_28 : TE0 28 = some ⟨.struct [(22, 0), (22, 1), (23, 2), (23, 3), (27, 4), (27, 6)], 8, 192, .agg ([.slice none 0 0, .slice none 0 0, .slice none 0 0, .slice none 0 0, .slice none 0 0, .slice none 0 0, .slice none 0 0, .slice none 0 0]).toArray⟩ := rfl
theorem TE_29 : TE0 29 = some ⟨.struct [(22, 0), (22, 1), (23, 2), (23, 3), (27, 4), (27, 6)], 8, 192, .agg ([.slice none 0 0, .slice none 0 0, .slice none 0 0, .slice none 0 0, .slice none 0 0, .slice none 0 0, .slice none 0 0, .slice none 0 0]).toArray⟩ := rfl
theorem TE_30 : TE0 30 = some ⟨.func, 1, 8, .nilFunc⟩ := rfl
theorem TE_31 : TE0 31 = some ⟨.slice 22, 1, 24, .slice none 0 0⟩ := rfl
theorem TE_32 : TE0 32 = some ⟨.int .i64, 1, 8, .int .i64 0⟩ := rfl
theorem TE_33 : TE0 33 = some ⟨.other, 1, 0, .tuple ([.slice none 0 0, .int .i64 0]).toArray⟩ := rfl
theorem TE_34 : TE0 34 = some ⟨.func, 1, 8, .nilFunc⟩ := rfl
theorem TE_35 : TE0 35 = some ⟨.func, 1, 8, .nilFunc⟩ := rfl
theorem TE_36 : TE0 36 = some ⟨.func, 1, 8, .nilFunc⟩ := rfl
theorem TE_37 : TE0 37 = some ⟨.func, 1, 8, .nilFunc⟩ := rfl
theorem TE_38 : TE0 38 = some ⟨.struct [(9, 0), (27, 1)], 3, 64, .agg ([.string ByteArray.empty, .slice none 0 0, .slice none 0 0]).toArray⟩ := rfl
theorem TE_39 : TE0 39 = some ⟨.struct [(9, 0), (27, 1)], 3, 64, .agg ([.string ByteArray.empty, .slice none 0 0, .slice none 0 0]).toArray⟩ := rfl
theorem TE_40 : TE0 40 = some ⟨.func, 1, 8, .nilFunc⟩ := rfl
theorem TE_41 : TE0 41 = some ⟨.func, 1, 8, .nilFunc⟩ := rfl
theorem TE_42 : TE0 42 = some ⟨.other, 1, 0, .tuple ([.slice none 0 0, .int .i64 0]).toArray⟩ := rfl
theorem TE_43 : TE0 43 = some ⟨.func, 1, 8, .nilFunc⟩ := rfl
theorem TE_44 : TE0 44 = some ⟨.func, 1, 8, .nilFunc⟩ := rfl
theorem TE_45 : TE0 45 = some ⟨.func, 1, 8, .nilFunc⟩ := rfl
theorem TE_46 : TE0 46 = some ⟨.struct [(3, 0), (3, 1)], 2, 16, .agg ([.int .i64 0, .int .i64 0]).toArray⟩ := rfl
theorem TE_47 : TE0 47 = some ⟨.struct [(3, 0), (3, 1)], 2, 16, .agg ([.int .i64 0, .int .i64 0]).toArray⟩ := rfl
theorem TE_48 : TE0 48 = some ⟨.struct [(47, 0), (9, 2), (3, 3)], 4, 40, .agg ([.int .i64 0, .int .i64 0, .string ByteArray.empty, .int .i64 0]).toArray⟩ := rfl
theorem TE_49 : TE0 49 = some ⟨.struct [(47, 0), (9, 2), (3, 3)], 4, 40, .agg ([.int .i64 0, .int .i64 0, .string ByteArray.empty, .int .i64 0]).toArray⟩ := rfl
theorem TE_50 : TE0 50 = some ⟨.func, 1, 8, .nilFunc⟩ := rfl
theorem TE_51 : TE0 51 = some ⟨.slice 47, 1, 24, .slice none 0 0⟩ := rfl
theorem TE_52 : TE0 52 = some ⟨.other, 1, 0, .tuple ([.slice none 0 0, .bool false]).toArray⟩ := rfl
theorem TE_53 : TE0 53 = some ⟨.func, 1, 8, .nilFunc⟩ := rfl
theorem TE_54 : TE0 54 = some ⟨.func, 1, 8, .nilFunc⟩ := rfl
theorem TE_55 : TE0 55 = some ⟨.func, 1, 8, .nilFunc⟩ := rfl
theorem TE_56 : TE0 56 = some ⟨.func, 1, 8, .nilFunc⟩ := rfl
theorem TE_57 : TE0 57 = some ⟨.func, 1, 8, .nilFunc⟩ := rfl
theorem TE_58 : TE0 58 = some ⟨.func, 1, 8, .nilFunc⟩ := rfl
theorem TE_59 : TE0 59 = some ⟨.func, 1, 8, .nilFunc⟩ := rfl
theorem TE_60 : TE0 60 = some ⟨.func, 1, 8, .nilFunc⟩ := rfl
theorem TE_61 : TE0 61 = some ⟨.func, 1, 8, .nilFunc⟩ := rfl
theorem TE_62 : TE0 62 = some ⟨.func, 1, 8, .nilFunc⟩ := rfl
theorem TE_63 : TE0 63 = some ⟨.func, 1, 8, .nilFunc⟩ := rfl
theorem TE_64 : TE0 64 = some ⟨.func, 1, 8, .nilFunc⟩ := rfl
theorem TE_65 : TE0 65 = some ⟨.arr 4 22, 4, 96, .agg ([.slice none 0 0, .slice none 0 0, .slice none 0 0, .slice none 0 0]).toArray⟩ := rfl
theorem TE_66 : TE0 66 = some ⟨.arr 2 23, 2, 48, .agg ([.slice none 0 0, .slice none 0 0]).toArray⟩ := rfl
theorem TE_67 : TE0 67 = some ⟨.arr 6 32, 6, 48, .agg ([.int .i64 0, .int .i64 0, .int .i64 0, .int .i64 0, .int .i64 0, .int .i64 0]).toArray⟩ := rfl
theorem TE_68 : TE0 68 = some ⟨.arr 12 3, 12, 96, .agg ([.int .i64 0, .int .i64 0, .int .i64 0, .int .i64 0, .int .i64 0, .int .i64 0, .int .i64 0, .int .i64 0, .int .i64 0, .int .i64 0, .int .i64 0, .int .i64 0]).toArray⟩ := rfl
theorem TE_69 : TE0 69 = some ⟨.struct [(65, 0), (66, 4), (67, 6), (68, 12)], 24, 288, .agg ([.slice none 0 0, .slice none 0 0, .slice none 0 0, .slice none 0 0, .slice none 0 0, .slice none 0 0, .int .i64 0, .int .i64 0, .int .i64 0, .int .i64 0, .int .i64 0, .int .i64 0, .int .i64 0, .int .i64 0, .int .i64 0, .int .i64 0, .int .i64 0, .int .i64 0, .int .i64 0, .int .i64 0, .int .i64 0, .int .i64 0, .int .i64 0, .int .i64 0]).toArray⟩ := rfl
theorem TE_70 : TE0 70 = some ⟨.struct [(65, 0), (66, 4), (67, 6), (68, 12)], 24, 288, .agg ([.slice none 0 0, .slice none 0 0, .slice none 0 0, .slice none 0 0, .slice none 0 0, .slice none 0 0, .int .i64 0, .int .i64 0, .int .i64 0, .int .i64 0, .int .i64 0, .int .i64 0, .int .i64 0, .int .i64 0, .int .i64 0, .int .i64 0, .int .i64 0, .int .i64 0, .int .i64 0, .int .i64 0, .int .i64 0, .int .i64 0, .int .i64 0, .int .i64 0]).toArray⟩ := rfl
theorem TE_71 : TE0 71 = some ⟨.func, 1, 8, .nilFunc⟩ := rfl
theorem TE_72 : TE0 72 = some ⟨.slice 24, 1, 24, .slice none 0 0⟩ := rfl
theorem TE_73 : TE0 73 = some ⟨.slice 25, 1, 24, .slice none 0 0⟩ := rfl
theorem TE_74 : TE0 74 = some ⟨.struct [(72, 0), (73, 1)], 2, 48, .agg ([.slice none 0 0, .slice none 0 0]).toArray⟩ := rfl
theorem TE_75 : TE0 75 = some ⟨.struct [(72, 0), (73, 1)], 2, 48, .agg ([.slice none 0 0, .slice none 0 0]).toArray⟩ := rfl
theorem TE_76 : TE0 76 = some ⟨.func, 1, 8, .nilFunc⟩ := rfl
theorem TE_77 : TE0 77 = some ⟨.func, 1, 8, .nilFunc⟩ := rfl
theorem TE_78 : TE0 78 = some ⟨.func, 1, 8, .nilFunc⟩ := rfl
theorem TE_79 : TE0 79 = some ⟨.func, 1, 8, .nilFunc⟩ := rfl
theorem TE_80 : TE0 80 = some ⟨.slice 51, 1, 24, .slice none 0 0⟩ := rfl
theorem TE_81 : TE0 81 = some ⟨.slice 159, 1, 24, .slice none 0 0⟩ := rfl
theorem TE_82 : TE0 82 = some ⟨.slice 23, 1, 24, .slice none 0 0⟩ := rfl
theorem TE_83 : TE0 83 = some ⟨.slice 163, 1, 24, .slice none 0 0⟩ := rfl
theorem TE_84 : TE0 84 = some ⟨.struct [(72, 0), (73, 1), (80, 2), (81, 3), (82, 4), (31, 5), (83, 6), (3, 7)], 8, 176, .agg ([.slice none 0 0, .slice none 0 0, .slice none 0 0, .slice none 0 0, .slice none 0 0, .slice none 0 0, .slice none 0 0, .int .i64 0]).toArray⟩ := rfl
theorem TE_85 : TE0 85 = some ⟨.struct [(72, 0), (73, 1), (80, 2), (81, 3), (82, 4), (31, 5), (83, 6), (3, 7)], 8, 176, .agg ([.slice none 0 0, .slice none 0 0, .slice none 0 0, .slice none 0 0, .slice none 0 0, .slice none 0 0, .slice none 0 0, .int .i64 0]).toArray⟩ := rfl
theorem TE_86 : TE0 86 = some ⟨.func, 1, 8, .nilFunc⟩ := rfl
theorem TE_87 : TE0 87 = some ⟨.ptr 85, 1, 8, .pointer none⟩ := rfl
theorem TE_88 : TE0 88 = some ⟨.struct [(3, 0), (3, 1), (3, 2)], 3, 24, .agg ([.int .i64 0, .int .i64 0, .int .i64 0]).toArray⟩ := rfl
theorem TE_89 : TE0 89 = some ⟨.struct [(3, 0), (3, 1), (3, 2)], 3, 24, .agg ([.int .i64 0, .int .i64 0, .int .i64 0]).toArray⟩ := rfl
theorem TE_90 : TE0 90 = some ⟨.func, 1, 8, .nilFunc⟩ := rfl
theorem TE_91 : TE0 91 = some ⟨.func, 1, 8, .nilFunc⟩ := rfl
theorem TE_92 : TE0 92 = some ⟨.func, 1, 8, .nilFunc⟩ := rfl
theorem TE_93 : TE0 93 = some ⟨.func, 1, 8, .nilFunc⟩ := rfl
theorem TE_94 : TE0 94 = some ⟨.func, 1, 8, .nilFunc⟩ := rfl
theorem TE_95 : TE0 95 = some ⟨.func, 1, 8, .nilFunc⟩ := rfl
theorem TE_96 : TE0 96 = some ⟨.func, 1, 8, .nilFunc⟩ := rfl
theorem TE_97 : TE0 97 = some ⟨.func, 1, 8, .nilFunc⟩ := rfl
theorem TE_98 : TE0 98 = some ⟨.func, 1, 8, .nilFunc⟩ := rfl
theorem TE_99 : TE0 99 = some ⟨.func, 1, 8, .nilFunc⟩ := rfl
theorem TE_100 : TE0 100 = some ⟨.func, 1, 8, .nilFunc⟩ := rfl
theorem TE_101 : TE0 101 = some ⟨.slice 27, 1, 24, .slice none 0 0⟩ := rfl
theorem TE_102 : TE0 102 = some ⟨.func, 1, 8, .nilFunc⟩ := rfl
theorem TE_103 : TE0 103 = some ⟨.arr 16 24, 16, 384, .agg ([.slice none 0 0, .slice none 0 0, .slice none 0 0, .slice none 0 0, .slice none 0 0, .slice none 0 0, .slice none 0 0, .slice none 0 0, .slice none 0 0, .slice none 0 0, .slice none 0 0, .slice none 0 0, .slice none 0 0, .slice none 0 0, .slice none 0 0, .slice none 0 0]).toArray⟩ := rfl
theorem TE_104 : TE0 104 = some ⟨.struct [(103, 0)], 16, 384, .agg ([.slice none 0 0, .slice none 0 0, .slice none 0 0, .slice none 0 0, .slice none 0 0, .slice none 0 0, .slice none 0 0, .slice none 0 0, .slice none 0 0, .slice none 0 0, .slice none 0 0, .slice none 0 0, .slice none 0 0, .slice none 0 0, .slice none 0 0, .slice none 0 0]).toArray⟩ := rfl
theorem TE_105 : TE0 105 = some ⟨.struct [(103, 0)], 16, 384, .agg ([.slice none 0 0, .slice none 0 0, .slice none 0 0, .slice none 0 0, .slice none 0 0, .slice none 0 0, .slice none 0 0, .slice none 0 0, .slice none 0 0, .slice none 0 0, .slice none 0 0, .slice none 0 0, .slice none 0 0, .slice none 0 0, .slice none 0 0, .slice none 0 0]).toArray⟩ := rfl
theorem TE_106 : TE0 106 = some ⟨.func, 1, 8, .nilFunc⟩ := rfl
theorem TE_107 : TE0 107 = some ⟨.func, 1, 8, .nilFunc⟩ := rfl
theorem TE_108 : TE0 108 = some ⟨.func, 1, 8, .nilFunc⟩ := rfl
theorem TE_109 : TE0 109 = some ⟨.func, 1, 8, .nilFunc⟩ := rfl
theorem TE_110 : TE0 110 = some ⟨.func, 1, 8, .nilFunc⟩ := rfl
theorem TE_111 : TE0 111 = some ⟨.func, 1, 8, .nilFunc⟩ := rfl
theorem TE_112 : TE0 112 = some ⟨.func, 1, 8, .nilFunc⟩ := rfl
theorem TE_113 : TE0 113 = some ⟨.func, 1, 8, .nilFunc⟩ := rfl
theorem TE_114 : TE0 114 = some ⟨.func, 1, 8, .nilFunc⟩ := rfl
theorem TE_115 : TE0 115 = some ⟨.ptr 120, 1, 8, .pointer none⟩ := rfl
theorem TE_116 : TE0 116 = some ⟨.func, 1, 8, .nilFunc⟩ := rfl
theorem TE_117 : TE0 117 = some ⟨.func, 1, 8, .nilFunc⟩ := rfl
theorem TE_118 : TE0 118 = some ⟨.slice 150, 1, 24, .slice none 0 0⟩ := rfl
theorem TE_119 : TE0 119 = some ⟨.arr 16 118, 16, 384, .agg ([.slice none 0 0, .slice none 0 0, .slice none 0 0, .slice none 0 0, .slice none 0 0, .slice none 0 0, .slice none 0 0, .slice none 0 0, .slice none 0 0, .slice none 0 0, .slice none 0 0, .slice none 0 0, .slice none 0 0, .slice none 0 0, .slice none 0 0, .slice none 0 0]).toArray⟩ := rfl
theorem TE_120 : TE0 120 = some ⟨.arr 16 118, 16, 384, .agg ([.slice none 0 0, .slice none 0 0, .slice none 0 0, .slice none 0 0, .slice none 0 0, .slice none 0 0, .slice none 0 0, .slice none 0 0, .slice none 0 0, .slice none 0 0, .slice none 0 0, .slice none 0 0, .slice none 0 0, .slice none 0 0, .slice none 0 0, .slice none 0 0]).toArray⟩ := rfl
theorem TE_121 : TE0 121 = some ⟨.func, 1, 8, .nilFunc⟩ := rfl
theorem TE_122 : TE0 122 = some ⟨.func, 1, 8, .nilFunc⟩ := rfl
theorem TE_123 : TE0 123 = some ⟨.func, 1, 8, .nilFunc⟩ := rfl
theorem TE_124 : TE0 124 = some ⟨.func, 1, 8, .nilFunc⟩ := rfl
theorem TE_125 : TE0 125 = some ⟨.func, 1, 8, .nilFunc⟩ := rfl
theorem TE_126 : TE0 126 = some ⟨.other, 1, 0, .tuple ([.int .i64 0, .int .i64 0]).toArray⟩ := rfl
theorem TE_127 : TE0 127 = some ⟨.func, 1, 8, .nilFunc⟩ := rfl
theorem TE_128 : TE0 128 = some ⟨.func, 1, 8, .nilFunc⟩ := rfl
theorem TE_129 : TE0 129 = some ⟨.func, 1, 8, .nilFunc⟩ := rfl
theorem TE_130 : TE0 130 = some ⟨.func, 1, 8, .nilFunc⟩ := rfl
theorem TE_131 : TE0 131 = some ⟨.int .u64, 1, 8, .int .u64 0⟩ := rfl
theorem TE_132 : TE0 132 = some ⟨.other, 1, 0, .tuple ([.int .i64 0, .int .i64 0]).toArray⟩ := rfl
theorem TE_133 : TE0 133 = some ⟨.func, 1, 8, .nilFunc⟩ := rfl
theorem TE_134 : TE0 134 = some ⟨.func, 1, 8, .nilFunc⟩ := rfl
theorem TE_135 : TE0 135 = some ⟨.func, 1, 8, .nilFunc⟩ := rfl
theorem TE_136 : TE0 136 = some ⟨.func, 1, 8, .nilFunc⟩ := rfl
theorem TE_137 : TE0 137 = some ⟨.func, 1, 8, .nilFunc⟩ := rfl
theorem TE_138 : TE0 138 = some ⟨.func, 1, 8, .nilFunc⟩ := rfl
theorem TE_139 : TE0 139 = some ⟨.func, 1, 8, .nilFunc⟩ := rfl
theorem TE_140 : TE0 140 = some ⟨.func, 1, 8, .nilFunc⟩ := rfl
theorem TE_141 : TE0 141 = some ⟨.func, 1, 8, .nilFunc⟩ := rfl
theorem TE_142 : TE0 142 = some ⟨.func, 1, 8, .nilFunc⟩ := rfl
theorem TE_143 : TE0 143 = some ⟨.func, 1, 8, .nilFunc⟩ := rfl
theorem TE_144 : TE0 144 = some ⟨.func, 1, 8, .nilFunc⟩ := rfl
theorem TE_145 : TE0 145 = some ⟨.func, 1, 8, .nilFunc⟩ := rfl
theorem TE_146 : TE0 146 = some ⟨.func, 1, 8, .nilFunc⟩ := rfl
theorem TE_147 : TE0 147 = some ⟨.func, 1, 8, .nilFunc⟩ := rfl
theorem TE_148 : TE0 148 = some ⟨.func, 1, 8, .nilFunc⟩ := rfl
theorem TE_149 : TE0 149 = some ⟨.struct [(3, 0), (3, 1)], 2, 16, .agg ([.int .i64 0, .int .i64 0]).toArray⟩ := rfl
theorem TE_150 : TE0 150 = some ⟨.struct [(3, 0), (3, 1)], 2, 16, .agg ([.int .i64 0, .int .i64 0]).toArray⟩ := rfl
theorem TE_151 : TE0 151 = some ⟨.other, 1, 0, .tuple ([.int .i64 0, .slice none 0 0]).toArray⟩ := rfl
theorem TE_152 : TE0 152 = some ⟨.func, 1, 8, .nilFunc⟩ := rfl
theorem TE_153 : TE0 153 = some ⟨.func, 1, 8, .nilFunc⟩ := rfl
theorem TE_154 : TE0 154 = some ⟨.func, 1, 8, .nilFunc⟩ := rfl
theorem TE_155 : TE0 155 = some ⟨.func, 1, 8, .nilFunc⟩ := rfl
theorem TE_156 : TE0 156 = some ⟨.func, 1, 8, .nilFunc⟩ := rfl
theorem TE_157 : TE0 157 = some ⟨.func, 1, 8, .nilFunc⟩ := rfl
theorem TE_158 : TE0 158 = some ⟨.func, 1, 8, .nilFunc⟩ := rfl
theorem TE_159 : TE0 159 = some ⟨.slice 5, 1, 24, .slice none 0 0⟩ := rfl
theorem TE_160 : TE0 160 = some ⟨.func, 1, 8, .nilFunc⟩ := rfl
theorem TE_161 : TE0 161 = some ⟨.func, 1, 8, .nilFunc⟩ := rfl
theorem TE_162 : TE0 162 = some ⟨.func, 1, 8, .nilFunc⟩ := rfl
theorem TE_163 : TE0 163 = some ⟨.slice 165, 1, 24, .slice none 0 0⟩ := rfl
theorem TE_164 : TE0 164 = some ⟨.struct [(9, 0), (3, 1), (3, 2)], 3, 32, .agg ([.string ByteArray.empty, .int .i64 0, .int .i64 0]).toArray⟩ := rfl
theorem TE_165 : TE0 165 = some ⟨.struct [(9, 0), (3, 1), (3, 2)], 3, 32, .agg ([.string ByteArray.empty, .int .i64 0, .int .i64 0]).toArray⟩ := rfl
theorem TE_166 : TE0 166 = some ⟨.func, 1, 8, .nilFunc⟩ := rfl
theorem TE_167 : TE0 167 = some ⟨.func, 1, 8, .nilFunc⟩ := rfl
theorem TE_168 : TE0 168 = some ⟨.func, 1, 8, .nilFunc⟩ := rfl
theorem TE_169 : TE0 169 = some ⟨.func, 1, 8, .nilFunc⟩ := rfl
theorem TE_170 : TE0 170 = some ⟨.int .i64, 1, 8, .int .i64 0⟩ := rfl
theorem TE_171 : TE0 171 = some ⟨.other, 1, 0, .tuple ([.int .i64 0, .int .i64 0]).toArray⟩ := rfl
theorem TE_172 : TE0 172 = some ⟨.func, 1, 8, .nilFunc⟩ := rfl
theorem TE_173 : TE0 173 = some ⟨.func, 1, 8, .nilFunc⟩ := rfl
theorem TE_174 : TE0 174 = some ⟨.func, 1, 8, .nilFunc⟩ := rfl
theorem TE_175 : TE0 175 = some ⟨.other, 1, 0, .tuple ([.int .i64 0, .bool false]).toArray⟩ := rfl
theorem TE_176 : TE0 176 = some ⟨.func, 1, 8, .nilFunc⟩ := rfl
theorem TE_177 : TE0 177 = some ⟨.func, 1, 8, .nilFunc⟩ := rfl
theorem TE_178 : TE0 178 = some ⟨.int .u32, 1, 4, .int .u32 0⟩ := rfl
theorem TE_179 : TE0 179 = some ⟨.func, 1, 8, .nilFunc⟩ := rfl
theorem TE_180 : TE0 180 = some ⟨.int .u64, 1, 8, .int .u64 0⟩ := rfl
theorem TE_181 : TE0 181 = some ⟨.func, 1, 8, .nilFunc⟩ := rfl
theorem TE_182 : TE0 182 = some ⟨.func, 1, 8, .nilFunc⟩ := rfl
theorem TE_183 : TE0 183 = some ⟨.func, 1, 8, .nilFunc⟩ := rfl
theorem TE_184 : TE0 184 = some ⟨.func, 1, 8, .nilFunc⟩ := rfl
theorem TE_185 : TE0 185 = some ⟨.func, 1, 8, .nilFunc⟩ := rfl
theorem TE_186 : TE0 186 = some ⟨.int .u64, 1, 8, .int .u64 0⟩ := rfl
theorem TE_187 : TE0 187 = some ⟨.func, 1, 8, .nilFunc⟩ := rfl
theorem TE_188 : TE0 188 = some ⟨.func, 1, 8, .nilFunc⟩ := rfl
theorem TE_189 : TE0 189 = some ⟨.func, 1, 8, .nilFunc⟩ := rfl
theorem TE_190 : TE0 190 = some ⟨.ptr 3, 1, 8, .pointer none⟩ := rfl
theorem TE_191 : TE0 191 = some ⟨.func, 1, 8, .nilFunc⟩ := rfl
theorem TE_192 : TE0 192 = some ⟨.func, 1, 8, .nilFunc⟩ := rfl
theorem TE_193 : TE0 193 = some ⟨.ptr 186, 1, 8, .pointer none⟩ := rfl
theorem TE_194 : TE0 194 = some ⟨.func, 1, 8, .nilFunc⟩ := rfl
theorem TE_195 : TE0 195 = some ⟨.slice 118, 1, 24, .slice none 0 0⟩ := rfl
theorem TE_197 : TE0 197 = some ⟨.func, 1, 8, .nilFunc⟩ := rfl
theorem TE_198 : TE0 198 = some ⟨.func, 1, 8, .nilFunc⟩ := rfl
theorem TE_199 : TE0 199 = some ⟨.func, 1, 8, .nilFunc⟩ := rfl
theorem TE_200 : TE0 200 = some ⟨.func, 1, 8, .nilFunc⟩ := rfl
theorem TE_201 : TE0 201 = some ⟨.func, 1, 8, .nilFunc⟩ := rfl
theorem TE_202 : TE0 202 = some ⟨.func, 1, 8, .nilFunc⟩ := rfl
theorem TE_203 : TE0 203 = some ⟨.func, 1, 8, .nilFunc⟩ := rfl
theorem TE_204 : TE0 204 = some ⟨.func, 1, 8, .nilFunc⟩ := rfl
theorem TE_205 : TE0 205 = some ⟨.func, 1, 8, .nilFunc⟩ := rfl
theorem TE_206 : TE0 206 = some ⟨.func, 1, 8, .nilFunc⟩ := rfl
theorem TE_207 : TE0 207 = some ⟨.func, 1, 8, .nilFunc⟩ := rfl
theorem TE_208 : TE0 208 = some ⟨.func, 1, 8, .nilFunc⟩ := rfl
theorem TE_209 : TE0 209 = some ⟨.func, 1, 8, .nilFunc⟩ := rfl
theorem TE_210 : TE0 210 = some ⟨.func, 1, 8, .nilFunc⟩ := rfl
theorem TE_211 : TE0 211 = some ⟨.struct [(17, 0), (17, 1), (17, 2), (9, 3)], 4, 40, .agg ([.pointer none, .pointer none, .pointer none, .string ByteArray.empty]).toArray⟩ := rfl
theorem TE_212 : TE0 212 = some ⟨.struct [(17, 0), (17, 1), (17, 2), (9, 3)], 4, 40, .agg ([.pointer none, .pointer none, .pointer none, .string ByteArray.empty]).toArray⟩ := rfl
theorem TE_213 : TE0 213 = some ⟨.arr 0 16, 0, 0, .agg ([]).toArray⟩ := rfl
theorem TE_214 : TE0 214 = some ⟨.struct [(213, 0)], 0, 0, .agg ([]).toArray⟩ := rfl
theorem TE_215 : TE0 215 = some ⟨.struct [(213, 0)], 0, 0, .agg ([]).toArray⟩ := rfl
theorem TE_216 : TE0 216 = some ⟨.int .u8, 1, 1, .int .u8 0⟩ := rfl
theorem TE_217 : TE0 217 = some ⟨.int .u8, 1, 1, .int .u8 0⟩ := rfl
theorem TE_218 : TE0 218 = some ⟨.func, 1, 8, .nilFunc⟩ := rfl
theorem TE_219 : TE0 219 = some ⟨.ptr 5, 1, 8, .pointer none⟩ := rfl
theorem TE_220 : TE0 220 = some ⟨.int .i32, 1, 4, .int .i32 0⟩ := rfl
theorem TE_221 : TE0 221 = some ⟨.int .i32, 1, 4, .int .i32 0⟩ := rfl
theorem TE_222 : TE0 222 = some ⟨.struct [(12, 0), (12, 1), (178, 2), (216, 3), (5, 4), (5, 5), (217, 6), (218, 7), (219, 8), (220, 9), (221, 10)], 11, 48, .agg ([.int .u64 0, .int .u64 0, .int .u32 0, .int .u8 0, .int .u8 0, .int .u8 0, .int .u8 0, .nilFunc, .pointer none, .int .i32 0, .int .i32 0]).toArray⟩ := rfl
theorem TE_223 : TE0 223 = some ⟨.struct [(12, 0), (12, 1), (178, 2), (216, 3), (5, 4), (5, 5), (217, 6), (218, 7), (219, 8), (220, 9), (221, 10)], 11, 48, .agg ([.int .u64 0, .int .u64 0, .int .u32 0, .int .u8 0, .int .u8 0, .int .u8 0, .int .u8 0, .nilFunc, .pointer none, .int .i32 0, .int .i32 0]).toArray⟩ := rfl
theorem TE_224 : TE0 224 = some ⟨.other, 1, 8, .pointer none⟩ := rfl
def Bt := (And.intro (And.intro (And.intro (And.intro (And.intro (And.intro (And.intro TE_0 (And.intro TE_1 TE_2)) (And.intro (And.intro TE_3 TE_4) (And.intro TE_5 TE_6))) (And.intro (And.intro TE_7 (And.intro TE_8 TE_9)) (And.intro (And.intro TE_10 TE_11) (And.intro TE_12 TE_13)))) (And.intro (And.intro (And.intro TE_14 (And.intro TE_15 TE_16)) (And.intro (And.intro TE_17 TE_18) (And.intro TE_19 TE_20))) (And.intro (And.intro TE_21 (And.intro TE_22 TE_23)) (And.intro (And.intro TE_24 TE_25) (And.intro TE_26 TE_27))))) (And.intro (And.intro (And.intro (And.intro TE_28 (And.intro TE_29 TE_30)) (And.intro (And.intro TE_31 TE_32) (And.intro TE_33 TE_34))) (And.intro (And.intro TE_35 (And.intro TE_36 TE_37)) (And.intro (And.intro TE_38 TE_39) (And.intro TE_40 TE_41)))) (And.intro (And.intro (And.intro TE_42 (And.intro TE_43 TE_44)) (And.intro (And.intro TE_45 TE_46) (And.intro TE_47 TE_48))) (And.intro (And.intro TE_49 (And.intro TE_50 TE_51)) (And.intro (And.intro TE_52 TE_53) (And.intro TE_54 TE_55)))))) (And.intro (And.intro (And.intro (And.intro (And.intro TE_56 (And.intro TE_57 TE_58)) (And.intro (And.intro TE_59 TE_60) (And.intro TE_61 TE_62))) (And.intro (And.intro TE_63 (And.intro TE_64 TE_65)) (And.intro (And.intro TE_66 TE_67) (And.intro TE_68 TE_69)))) (And.intro (And.intro (And.intro TE_70 (And.intro TE_71 TE_72)) (And.intro (And.intro TE_73 TE_74) (And.intro TE_75 TE_76))) (And.intro (And.intro TE_77 (And.intro TE_78 TE_79)) (And.intro (And.intro TE_80 TE_81) (And.intro TE_82 TE_83))))) (And.intro (And.intro (And.intro (And.intro TE_84 (And.intro TE_85 TE_86)) (And.intro (And.intro TE_87 TE_88) (And.intro TE_89 TE_90))) (And.intro (And.intro TE_91 (And.intro TE_92 TE_93)) (And.intro (And.intro TE_94 TE_95) (And.intro TE_96 TE_97)))) (And.intro (And.intro (And.intro TE_98 (And.intro TE_99 TE_100)) (And.intro (And.intro TE_101 TE_102) (And.intro TE_103 TE_104))) (And.intro (And.intro TE_105 (And.intro TE_106 TE_107)) (And.intro (And.intro TE_108 TE_109) (And.intro TE_110 TE_111))))))) (And.intro (And.intro (And.intro (And.intro (And.intro (And.intro TE_112 (And.intro TE_113 TE_114)) (And.intro (And.intro TE_115 TE_116) (And.intro TE_117 TE_118))) (And.intro (And.intro TE_119 (And.intro TE_120 TE_121)) (And.intro (And.intro TE_122 TE_123) (And.intro TE_124 TE_125)))) (And.intro (And.intro (And.intro TE_126 (And.intro TE_127 TE_128)) (And.intro (And.intro TE_129 TE_130) (And.intro TE_131 TE_132))) (And.intro (And.intro TE_133 (And.intro TE_134 TE_135)) (And.intro (And.intro TE_136 TE_137) (And.intro TE_138 TE_139))))) (And.intro (And.intro (And.intro (And.intro TE_140 (And.intro TE_141 TE_142)) (And.intro (And.intro TE_143 TE_144) (And.intro TE_145 TE_146))) (And.intro (And.intro TE_147 (And.intro TE_148 TE_149)) (And.intro (And.intro TE_150 TE_151) (And.intro TE_152 TE_153)))) (And.intro (And.intro (And.intro TE_154 (And.intro TE_155 TE_156)) (And.intro (And.intro TE_157 TE_158) (And.intro TE_159 TE_160))) (And.intro (And.intro TE_161 (And.intro TE_162 TE_163)) (And.intro (And.intro TE_164 TE_165) (And.intro TE_166 TE_167)))))) (And.intro (And.intro (And.intro (And.intro (And.intro TE_168 (And.intro TE_169 TE_170)) (And.intro (And.intro TE_171 TE_172) (And.intro TE_173 TE_174))) (And.intro (And.intro TE_175 (And.intro TE_176 TE_177)) (And.intro (And.intro TE_178 TE_179) (And.intro TE_180 TE_181)))) (And.intro (And.intro (And.intro TE_182 (And.intro TE_183 TE_184)) (And.intro (And.intro TE_185 TE_186) (And.intro TE_187 TE_188))) (And.intro (And.intro TE_189 (And.intro TE_190 TE_191)) (And.intro (And.intro TE_192 TE_193) (And.intro TE_194 TE_195))))) (And.intro (And.intro (And.intro (And.intro TE_197 (And.intro TE_198 TE_199)) (And.intro (And.intro TE_200 TE_201) (And.intro TE_202 TE_203))) (And.intro (And.intro TE_204 (And.intro TE_205 TE_206)) (And.intro (And.intro TE_207 TE_208) (And.intro TE_209 TE_210)))) (And.intro (And.intro (And.intro TE_211 (And.intro TE_212 TE_213)) (And.intro (And.intro TE_214 TE_215) (And.intro TE_216 TE_217))) (And.intro (And.intro TE_218 (And.intro TE_219 TE_220)) (And.intro (And.intro TE_221 TE_222) (And.intro TE_223 TE_224))))))))

def eqL : List Nat := [3, 4, 9, 47, 32, 89, 170, 49, 150, 5, 165, 180, 21, 131]
def EQ0 (t : TypeId) : Bool := eqL.contains t
theorem hm0 : Tryz.prog.follows .mixedOrders = true := by kernel_rfl
theorem hE0 : ∀ t, EQ0 t = true → EqOk Tryz.prog t := eqOk_of (by kernel_rfl)
def En (P : Program) (h : P = Tryz.prog) : Env := ⟨P, TE0, EQ0, h ▸ hm0, h ▸ teL_ok, h ▸ hE0⟩
theorem En_P (P : Program) (h : P = Tryz.prog) : (En P h).P = P := rfl
theorem En_TE (P : Program) (h : P = Tryz.prog) : (En P h).TE = TE0 := rfl
theorem En_EQ (P : Program) (h : P = Tryz.prog) : (En P h).EQ = EQ0 := rfl

section
theorem bqs : ((true == true) = true) ∧ ((false == false) = true) ∧ ((true == false) = false) ∧ ((false == true) = false) := ⟨rfl, rfl, rfl, rfl⟩
class Nx (B : Prop) (A : outParam Prop) : Prop where
  it : A → B
class Ny (C : Prop) (A B : outParam Prop) : Prop where
  it : A → B → C
section
variable {E : Env} {n : Nat} {Q Q' : Ex → AS → Prop} {k : Kont} {s s2 : AS} {x y : SC} {d : Bool} {RK : Option (List Nat × (Nat → Bool))} {A B I : Prop} {σ : Type} {S : σ → AS} {ok : σ → Prop} {id : Nat} {l : List AVal} {b c : Bool}
instance : Nx (awpOps E d RK (KQ E n Q k) [] s) (Fin E n Q k .normal s) := ⟨awp_nilK⟩
instance : Nx (Run E n Q (.seq x y) k s) (Run E n Q x (.seq y k) s) := ⟨Run.seq⟩
instance : Nx (Fin E n Q (.seq y k) .normal s) (Run E n Q y k s) := ⟨Fin.seq⟩
instance : Nx (Run E n Q .skip k s) (Fin E n Q k .normal s) := ⟨Run.skip⟩
instance : Nx (Run E n Q .ret k s) (Fin E n Q k .ret s) := ⟨Run.ret⟩
instance : Nx (Run E n Q (.exit id) k s) (Fin E n Q k (.exit id) s) := ⟨Run.exit⟩
instance : Nx (Run E n Q (.block id x) k s) (Run E n Q x (.block id k) s) := ⟨Run.block⟩
instance : Nx (Fin E n Q (.seq y k) .ret s) (Fin E n Q k .ret s) := ⟨Fin.seq_ret⟩
instance : Nx (Fin E n Q (.seq y k) (.exit id) s) (Fin E n Q k (.exit id) s) := ⟨Fin.seq_exit⟩
instance : Nx (Fin E n Q (.block id k) .normal s) (Fin E n Q k .normal s) := ⟨Fin.block⟩
instance : Nx (Fin E n Q (.block id k) .ret s) (Fin E n Q k .ret s) := ⟨Fin.block_ret⟩
instance : Nx (Fin E n Q (.block id k) (.exit id) s) (Fin E n Q k .normal s) := ⟨Fin.block_exit⟩
instance : Nx (Fin E n (LoopQ n s2 (KQ E n Q k)) .done (.exit id) s) (Fin E n Q k (.exit id) s) := ⟨Fin.out⟩
instance : Nx (Fin E n (LoopQ n s2 (KQ E n Q k)) .done .ret s) (Fin E n Q k .ret s) := ⟨Fin.out_ret⟩
instance : Nx (Fin E n (Ex.then (fun _ => False) (KQ E n Q k)) .done (.exit id) s) (Fin E n Q k (.exit id) s) := ⟨Fin.last⟩
instance : Nx (Fin E n (LoopW n S ok (KQ E n Q k)) .done (.exit id) s) (Fin E n Q k (.exit id) s) := ⟨Fin.outW⟩
instance : Nx (Fin E n (LoopW n S ok (KQ E n Q k)) .done .ret s) (Fin E n Q k .ret s) := ⟨Fin.outW_ret⟩
instance : Nx (GuardG (.tup l) b A B) B := ⟨g_tup⟩
instance : Nx (GuardG (.bool true) true A B) A := ⟨g_tt⟩
instance : Nx (GuardG (.bool false) false A B) A := ⟨g_ff⟩
instance : Nx (GuardG (.bool true) false A B) B := ⟨g_tf⟩
instance : Nx (GuardG (.bool false) true A B) B := ⟨g_ft⟩
instance : Nx (CondG (.bool true) A B) A := ⟨c_t⟩
instance : Nx (CondG (.bool false) A B) B := ⟨c_f⟩
instance : Ny (GuardG (.bool c) true A B) (Hyp (c = true) A) (Hyp (c = false) B) := ⟨g_splitT⟩
instance : Ny (GuardG (.bool c) false A B) (Hyp (c = true) B) (Hyp (c = false) A) := ⟨g_splitF⟩
instance : Ny (CondG (.bool c) A B) (Hyp (c = true) A) (Hyp (c = false) B) := ⟨c_split⟩
theorem Nx.of [h : Nx B A] (a : A) : B := h.it a
theorem Ny.of {C : Prop} [h : Ny C A B] (a : A) (b : B) : C := h.it a b
end
def GV (E : Env) (d : Bool) (RK : Option (List Nat × (Nat → Bool))) (Q : Ex → AS → Prop) (dst : Option Tmp) (op : Op) (r : List SOp) (T : Tmps) (M : Mem) : Prop := awpOps E d RK Q (⟨dst, op, none⟩ :: r) ⟨T, M⟩
def GG (E : Env) (d : Bool) (RK : Option (List Nat × (Nat → Bool))) (Q : Ex → AS → Prop) (u t : Tmp) (b : Bool) (op : Op) (r : List SOp) (T : Tmps) (M : Mem) : Prop := awpOps E d RK Q (⟨some u, op, some (some t, b)⟩ :: r) ⟨T, M⟩
def GG0 (E : Env) (d : Bool) (RK : Option (List Nat × (Nat → Bool))) (Q : Ex → AS → Prop) (t : Tmp) (b : Bool) (op : Op) (r : List SOp) (T : Tmps) (M : Mem) : Prop := awpOps E d RK Q (⟨none, op, some (some t, b)⟩ :: r) ⟨T, M⟩
def GC (E : Env) (n : Nat) (Q : Ex → AS → Prop) (o : Operand) (x y : SC) (K : Kont) (s : AS) : Prop := Run E n Q (.cond o x y) K s
def GO (E : Env) (n : Nat) (Q : Ex → AS → Prop) (d : Bool) (l : List SOp) (L : List Nat) (K : Kont) (T : Tmps) (M : Mem) : Prop := Run E n Q (.ops d l) K ⟨T, M⟩
def GW (E : Env) (n : Nat) (Q : Ex → AS → Prop) (ws : List Nat) (l : List SOp) (L : List Nat) (K : Kont) (T : Tmps) (M : Mem) : Prop := Run E n Q (.opsW ws l) K ⟨T, M⟩
def GW2 (E : Env) (n : Nat) (Q : Ex → AS → Prop) (ws : List Nat) (l : List SOp) (L : List Nat) (F : Nat → Bool) (K : Kont) (T : Tmps) (M : Mem) : Prop := Run E n Q (.opsW ws l) K ⟨T, M⟩
def GX (E : Env) (n : Nat) (Q : Ex → AS → Prop) (id id' : Nat) (k : Kont) (s : AS) : Prop := Fin E n Q (.block id k) (.exit id') s
section
variable {E : Env} {d : Bool} {RK : Option (List Nat × (Nat → Bool))} {Q : Ex → AS → Prop} {r : List SOp} {T : Tmps} {M : Mem} {dst : Option Tmp} {op : Op} {n : Nat} {K : Kont} {x y : SC} {s : AS} {l : List SOp} {id id' : Nat} {u t : Tmp} {b : Bool} {o : Operand}
theorem toV (h : GV E d RK Q dst op r T M) : awpOps E d RK Q (⟨dst, op, none⟩ :: r) ⟨T, M⟩ := h
theorem toG (h : GG E d RK Q u t b op r T M) : awpOps E d RK Q (⟨some u, op, some (some t, b)⟩ :: r) ⟨T, M⟩ := h
theorem toG0 (h : GG0 E d RK Q t b op r T M) : awpOps E d RK Q (⟨none, op, some (some t, b)⟩ :: r) ⟨T, M⟩ := h
theorem toC (h : GC E n Q o x y K s) : Run E n Q (.cond o x y) K s := h
theorem toO [i : Live l] (h : GO E n Q d l (Live.L l) K T M) : Run E n Q (.ops d l) K ⟨T, M⟩ := h
theorem toW {ws : List Nat} [i : Live l] (h : GW E n Q ws l (Live.L l) K T M) : Run E n Q (.opsW ws l) K ⟨T, M⟩ := h
theorem toW2 {ws : List Nat} [i : Live l] [j : Rd l] (h : GW2 E n Q ws l (Live.L l) (Rd.K l) K T M) : Run E n Q (.opsW ws l) K ⟨T, M⟩ := h
theorem toX (h : GX E n Q id id' K s) : Fin E n Q (.block id K) (.exit id') s := h
end
section
variable {E : Env} {d : Bool} {RK : Option (List Nat × (Nat → Bool))} {Q : Ex → AS → Prop} {r : List SOp} {T : Tmps} {M : Mem} {dst : Option Tmp} {op : Op} {n : Nat} {K : Kont} {x y : SC} {s : AS}
theorem stV {v : AVal} {ups : List (Nat × ABlk)} {s' : AS} (hp : plainOp op = true := by with_unfolding_all rfl)
    (h : opS E.TE E.EQ ⟨T, M⟩ dst op = some (v, ups) := by (simp (disch := omega) only [↓Bp, Bq, En_TE, En_EQ, En_P, allocA, fieldA, moveA, indexAddrA, indexA, binA, arithA, shiftA, strA, eqvA, nilS, nilP, nilF, nils, unA, builtinA, mmA, sliceA, boundA, srcA, makeSliceA, TD.isAgg, AVal.known, AVal.cells, AVal.one, AVal.plain, AVal.withCells, isStore, AVal.at, AVal.atR, opCls, clsW, cst, Go.Value.cells, reduceCtorEq, ↓reduceIte, Nat.reduceAdd, Nat.reduceMul, Nat.reduceLeDiff, Nat.reduceEqDiff, Nat.reduceBEq, Int.reduceLE, Int.reduceLT, Int.reduceToNat, Nat.reduceLT, Nat.reduceSub, Int.reduceNeg, Int.reduceEq, Bt, bqs, eqA, eqFs, EQ0, eqL, kill, hF]; first | done | with_unfolding_all exact rfl))
    (hc : dchk d RK dst op T ups = true := by first | with_reducible exact dchk_text | with_unfolding_all rfl)
    (hs : AS.put ⟨T, ap M ups⟩ dst v = s' := by with_reducible first | exact put_v | exact put_k | exact put_s | exact put_n | exact put_k2 | exact put_s2)
    (k : awpOps E d RK Q r s') : GV E d RK Q dst op r T M := dv hp h hc hs k
theorem stG {t u : Tmp} {b : Bool} {x : AVal} (h : T t = x := by (simp (disch := omega) only [↓Bp, Bq, En_TE, En_EQ, En_P, allocA, fieldA, moveA, indexAddrA, indexA, binA, arithA, shiftA, strA, eqvA, nilS, nilP, nilF, nils, unA, builtinA, mmA, sliceA, boundA, srcA, makeSliceA, TD.isAgg, AVal.known, AVal.cells, AVal.one, AVal.plain, AVal.withCells, isStore, AVal.at, AVal.atR, opCls, clsW, cst, Go.Value.cells, reduceCtorEq, ↓reduceIte, Nat.reduceAdd, Nat.reduceMul, Nat.reduceLeDiff, Nat.reduceEqDiff, Nat.reduceBEq, Int.reduceLE, Int.reduceLT, Int.reduceToNat, Nat.reduceLT, Nat.reduceSub, Int.reduceNeg, Int.reduceEq, Bt, bqs, eqA, eqFs, EQ0, eqL, kill, hF]; first | done | with_unfolding_all exact rfl))
    (k : GuardG x b (awpOps E d RK Q (⟨some u, op, none⟩ :: r) ⟨T, M⟩) (awpOps E d RK Q r ⟨upd T u (.tup []), M⟩)) : GG E d RK Q u t b op r T M := dg h k
theorem stG0 {t : Tmp} {b : Bool} {x : AVal} (h : T t = x := by (simp (disch := omega) only [↓Bp, Bq, En_TE, En_EQ, En_P, allocA, fieldA, moveA, indexAddrA, indexA, binA, arithA, shiftA, strA, eqvA, nilS, nilP, nilF, nils, unA, builtinA, mmA, sliceA, boundA, srcA, makeSliceA, TD.isAgg, AVal.known, AVal.cells, AVal.one, AVal.plain, AVal.withCells, isStore, AVal.at, AVal.atR, opCls, clsW, cst, Go.Value.cells, reduceCtorEq, ↓reduceIte, Nat.reduceAdd, Nat.reduceMul, Nat.reduceLeDiff, Nat.reduceEqDiff, Nat.reduceBEq, Int.reduceLE, Int.reduceLT, Int.reduceToNat, Nat.reduceLT, Nat.reduceSub, Int.reduceNeg, Int.reduceEq, Bt, bqs, eqA, eqFs, EQ0, eqL, kill, hF]; first | done | with_unfolding_all exact rfl))
    (k : GuardG x b (awpOps E d RK Q (⟨none, op, none⟩ :: r) ⟨T, M⟩) (awpOps E d RK Q r ⟨T, M⟩)) : GG0 E d RK Q t b op r T M := dg0 h k
theorem stC {o : Operand} {v : AVal} (h : ev s.T o = v := by (simp (disch := omega) only [↓Bp, Bq, En_TE, En_EQ, En_P, allocA, fieldA, moveA, indexAddrA, indexA, binA, arithA, shiftA, strA, eqvA, nilS, nilP, nilF, nils, unA, builtinA, mmA, sliceA, boundA, srcA, makeSliceA, TD.isAgg, AVal.known, AVal.cells, AVal.one, AVal.plain, AVal.withCells, isStore, AVal.at, AVal.atR, opCls, clsW, cst, Go.Value.cells, reduceCtorEq, ↓reduceIte, Nat.reduceAdd, Nat.reduceMul, Nat.reduceLeDiff, Nat.reduceEqDiff, Nat.reduceBEq, Int.reduceLE, Int.reduceLT, Int.reduceToNat, Nat.reduceLT, Nat.reduceSub, Int.reduceNeg, Int.reduceEq, Bt, bqs, eqA, eqFs, EQ0, eqL, kill, hF]; first | done | with_unfolding_all exact rfl))
    (k : CondG v (Run E n Q x K s) (Run E n Q y K s)) : GC E n Q o x y K s := dc h k
theorem stO {T' : List (Nat × AVal)} {M' : Mem} {l : List SOp} {L : List Nat} {o : SOp} (hl : l = o :: r := by with_unfolding_all rfl)
    (hT : rstr L T = T' := by (simp only [Live.L, ↓Br, ↓reduceIte, Nat.reduceEqDiff, Option.getD]; first | done | with_unfolding_all exact rfl))
    (hM : M = M' := by (first | (simp only [upd_upd]; with_unfolding_all exact rfl) | with_unfolding_all exact rfl))
    (k : awpOps E d none (KQ E n Q K) (o :: r) ⟨tms T', M'⟩) : GO E n Q d l L K T M := Run.opsL0 hl L hT hM k
theorem stW (F : Nat → Bool) {ws : List Nat} {T' : List (Nat × AVal)} {M' : Mem} {l : List SOp} {L : List Nat} {o : SOp} (hl : l = o :: r := by with_unfolding_all rfl)
    (hT : rstr L T = T' := by (simp only [Live.L, ↓Br, ↓reduceIte, Nat.reduceEqDiff, Option.getD]; first | done | with_unfolding_all exact rfl))
    (hM : M = M' := by (first | (simp only [upd_upd]; with_unfolding_all exact rfl) | with_unfolding_all exact rfl))
    (k : awpOps E true (some (ws, F)) (KQ E n Q K) (o :: r) ⟨tms T', M'⟩) : GW E n Q ws l L K T M := Run.opsWL0 F hl L hT hM k
theorem stW2 {F : Nat → Bool} {F2 : Nat → Bool} {ws : List Nat} {T' : List (Nat × AVal)} {M' : Mem} {l : List SOp} {L : List Nat} {o : SOp} (hl : l = o :: r := by with_unfolding_all rfl)
    (hT : rstr L T = T' := by (simp only [Live.L, ↓Br, ↓reduceIte, Nat.reduceEqDiff, Option.getD]; first | done | with_unfolding_all exact rfl))
    (hM : M = M' := by (first | (simp only [upd_upd]; with_unfolding_all exact rfl) | with_unfolding_all exact rfl))
    (hF2 : F = F2 := by (simp only [Rd.K]; with_unfolding_all exact rfl)) (k : awpOps E true (some (ws, F2)) (KQ E n Q K) (o :: r) ⟨tms T', M'⟩) : GW2 E n Q ws l L F K T M := Run.opsWL0 F2 hl L hT hM k
theorem stX {Q : Ex → AS → Prop} {z : Kont} {id id' : Nat} (hne : (id' == id) = false := by with_unfolding_all rfl) (k : Fin E n Q z (.exit id') s) : GX E n Q id id' z s := Fin.block_other hne k
theorem stCall {t : Tmp} {x : Operand} {args : Array Operand} {ts : Array TypeId} {f : FuncId} {caps : List AVal} (l : List AVal) {v : AVal} (hf : ev T x = .fn f caps := by with_unfolding_all rfl)
    (hl : (evs T args.toList ++ caps).map (fz (fun _ => false) M) = l := by first | with_unfolding_all rfl | (simp [evs, ev, cst, fz, fzc, upd, tms, hL]; done)) (hs : stbs l = true := by first | (simp only [stbs, AVal.stb, encIs_stb, encRs_stb, encR_stb, encSs_stb, encP_stb, encPs_stb, encL_stb, Bool.and_true, Bool.true_and, Bool.and_self]; done) | (simp only [stbs, AVal.stb, encIs_stb, encRs_stb, encR_stb, encSs_stb, encP_stb, encPs_stb, encL_stb, Bool.and_true, Bool.true_and, Bool.and_self, hS]; done)) (he : Ev E.P f l (.ret v))
    (k : awpOps E d RK Q r ⟨upd T t v, M⟩) : awpOps E d RK Q (⟨some t, .call ⟨.value x, args, ts⟩, none⟩ :: r) ⟨T, M⟩ := awp_pure hf hl hs he k
theorem stGive {t : Tmp} {x : Operand} {args : Array Operand} {ts : Array TypeId} (K : Nat → Bool) {f : FuncId} {caps : List AVal} (l : List AVal) {v : AVal} (hf : ev T x = .fn f caps := by with_unfolding_all rfl)
    (hl : (evs T args.toList ++ caps).map (fz K M) = l := by first | with_unfolding_all rfl | simp [evs, ev, fz, fzc, upd, tms, mms, kill]) (hs : stbs l = true := by first | (simp only [stbs, AVal.stb, encIs_stb, encRs_stb, encR_stb, encSs_stb, encP_stb, encPs_stb, encL_stb, Bool.and_true, Bool.true_and, Bool.and_self]; done) | (simp only [stbs, AVal.stb, encIs_stb, encRs_stb, encR_stb, encSs_stb, encP_stb, encPs_stb, encL_stb, Bool.and_true, Bool.true_and, Bool.and_self, hS]; done)) (he : Ev E.P f l (.ret v))
    (hv : v.flt = false := by with_unfolding_all rfl) (k : awpOps E false none Q r ⟨upd T t v, kill K M⟩) : awpOps E false none Q (⟨some t, .call ⟨.value x, args, ts⟩, none⟩ :: r) ⟨T, M⟩ := awp_give K hf hl hs he hv k
theorem stNew {t : Tmp} {x : Operand} {args : Array Operand} {ts : Array TypeId} {f : FuncId} {caps : List AVal} (l : List AVal) {cs : List AVal} (hf : ev T x = .fn f caps := by with_unfolding_all rfl)
    (hl : (evs T args.toList ++ caps).map (fz (fun _ => false) M) = l := by first | with_unfolding_all rfl | (simp [evs, ev, cst, fz, fzc, upd, tms, hL]; done)) (hs : stbs l = true := by first | (simp only [stbs, AVal.stb, encIs_stb, encRs_stb, encR_stb, encSs_stb, encP_stb, encPs_stb, encL_stb, Bool.and_true, Bool.true_and, Bool.and_self]; done) | (simp only [stbs, AVal.stb, encIs_stb, encRs_stb, encR_stb, encSs_stb, encP_stb, encPs_stb, encL_stb, Bool.and_true, Bool.true_and, Bool.and_self, hS]; done)) (he : EvNew E.P f l cs)
    (hM : M t = none := by with_unfolding_all rfl) (k : awpOps E d none Q r ⟨upd T t (.ptr t 0), upd M t (some (.cells cs))⟩) : awpOps E d none Q (⟨some t, .call ⟨.value x, args, ts⟩, none⟩ :: r) ⟨T, M⟩ := awp_new hf hl hs he hM k
theorem stWk {l : List (Nat × AVal)} {m : List (Nat × ABlk)}
    (h : allT T l := by repeat (first | exact trivial | refine ⟨by with_unfolding_all rfl, ?_⟩ | (refine ⟨by simp [↓upd_app, ↓tms_cons', ↓mms_cons', ↓NoM', hW], ?_⟩)))
    (hm : allM M m := by repeat (first | exact trivial | refine ⟨by with_unfolding_all rfl, ?_⟩ | (refine ⟨by simp [↓upd_app, ↓tms_cons', ↓mms_cons', ↓NoM', hW], ?_⟩)))
    (hn : allNo (offL m) l := by repeat (first | exact trivial | (refine ⟨?_, ?_⟩; focus (first | with_unfolding_all rfl | (apply no_of_stb; simp only [stbs, AVal.stb, encIs_stb, encRs_stb, encR_stb, encSs_stb, encP_stb, encPs_stb, encL_stb, Bool.and_true, Bool.true_and, Bool.and_self, hW]; done)))))
    (hb : blkNo (offL m) m := by repeat (first | exact trivial | (refine ⟨?_, ?_⟩; focus (first | with_unfolding_all rfl | (apply arr_no; simp only [stbs, AVal.stb, encIs_stb, encRs_stb, encR_stb, encSs_stb, encP_stb, encPs_stb, encL_stb, Bool.and_true, Bool.true_and, Bool.and_self, hW]; done) | exact encT_no _ _ | exact encLo_no _ _ | exact encHi_no _ _ | (apply cells_no; simp only [stbs, AVal.stb, encIs_stb, encRs_stb, encR_stb, encSs_stb, encP_stb, encPs_stb, encL_stb, Bool.and_true, Bool.true_and, Bool.and_self, hW]; done) | (apply cells_ok; simp only [cellsOk, cellOk, List.all_cons, List.all_nil, stbs, AVal.stb, encIs_stb, encRs_stb, encR_stb, encSs_stb, encP_stb, encPs_stb, encL_stb, Bool.and_true, Bool.true_and, Bool.and_self, hW]; done) | (simp [ABlk.no, AVal.noC, AVal.no, AVal.stb, stbs, encIs_stb, encRs_stb, encR_stb, encSs_stb, encP_stb, encPs_stb, encL_stb, hW]; done))))) :
    Wk n ⟨T, M⟩ ⟨tms l, mms m⟩ := Wk.toL l m h hm hn hb
theorem stRet {t : Tmp} (x : AVal) (h : fz allK M (T t) = x := by first | with_unfolding_all rfl | simp [fz, fzc, allK, upd, tms, mms]) (hs : x.stb = true := by first | with_unfolding_all rfl | simp only [stbs, AVal.stb, encIs_stb, encRs_stb, encR_stb, encSs_stb, encP_stb, encPs_stb, encL_stb, Bool.and_true, Bool.true_and, Bool.and_self]) :
    Fin E n (FnQ E.TE [.tmp t] (.ret x)) .done .ret ⟨T, M⟩ := Fin.tmp' h hs
theorem go1 {A G : Prop} (h : A → G := by (intro hK; first | ((with_reducible refine Nx.of ?_); exact hK) | ((with_reducible apply toV); refine stV (k:=?_); exact hK) | ((with_reducible apply toG); refine stG (k:=?_); exact hK) | ((with_reducible apply toG0); refine stG0 (k:=?_); exact hK) | ((with_reducible apply toC); refine stC (k:=?_); exact hK) | ((with_reducible apply toO); refine stO (k:=?_); exact hK) | ((with_reducible apply toX); refine stX (k:=?_); exact hK))) (k : A) : G := h k
theorem go2 {A G : Prop} (h : A → G := by (intro hK; first | ((with_reducible refine Nx.of ?_); exact hK) | ((with_reducible apply toV); refine stV (k:=?_); exact hK) | ((with_reducible apply toG); refine stG (k:=?_); exact hK) | ((with_reducible apply toG0); refine stG0 (k:=?_); exact hK) | ((with_reducible apply toC); refine stC (k:=?_); exact hK) | ((with_reducible apply toO); refine stO (k:=?_); exact hK) | ((with_reducible apply toW2); refine stW2 (k:=?_); exact hK) | ((with_reducible apply toX); refine stX (k:=?_); exact hK))) (k : A) : G := h k
theorem go0 {A G : Prop} (h : A → G := by (intro hK; first | ((with_reducible refine Nx.of ?_); exact hK) | ((with_reducible apply toV); refine stV (k:=?_); exact hK) | ((with_reducible apply toG); refine stG (k:=?_); (with_reducible refine Nx.of ?_); exact hK) | ((with_reducible apply toG0); refine stG0 (k:=?_); (with_reducible refine Nx.of ?_); exact hK) | ((with_reducible apply toC); refine stC (k:=?_); (with_reducible refine Nx.of ?_); exact hK) | ((with_reducible apply toO); refine stO (k:=?_); exact hK) | ((with_reducible apply toX); refine stX (k:=?_); exact hK))) (k : A) : G := h k
end
end
def r_k174_1 : List SOp := [⟨some 1,.box 150 (.tmp 0),none⟩,⟨some 2,.alloc 150,none⟩,⟨some 3,.assign (.const (.bool false)),none⟩]
instance : Live r_k174_1 := ⟨[0]⟩
def r_k174_2 : List SOp := [⟨some 4,.fieldAddr 150 (.tmp 1) 0,none⟩,⟨some 5,.load 3 (.tmp 4),none⟩,⟨some 6,.call ⟨.builtin .max,#[.tmp 5,.const (.int .i64 1)],#[3,3]⟩,none⟩,⟨some 7,.fieldAddr 150 (.tmp 1) 1,none⟩,⟨some 8,.load 3 (.tmp 7),none⟩,⟨some 9,.call ⟨.builtin .min,#[.tmp 8,.const (.int .i64 1000000000)],#[3,3]⟩,none⟩,⟨some 10,.fieldAddr 150 (.tmp 1) 0,none⟩,⟨none,.store 3 (.tmp 10) (.tmp 6),none⟩,⟨some 11,.fieldAddr 150 (.tmp 1) 1,none⟩,⟨none,.store 3 (.tmp 11) (.tmp 9),none⟩]
instance : Live r_k174_2 := ⟨[1,2]⟩
def r_k174_3 : List SOp := [⟨some 12,.load 150 (.tmp 1),none⟩,⟨some 13,.fieldAddr 150 (.tmp 1) 0,none⟩,⟨some 14,.load 3 (.tmp 13),none⟩,⟨some 15,.fieldAddr 150 (.tmp 1) 1,none⟩,⟨some 16,.load 3 (.tmp 15),none⟩,⟨some 17,.binOp .leq 3 (.tmp 14) (.tmp 16) 3,none⟩,⟨none,.store 150 (.tmp 2) (.tmp 12),none⟩,⟨some 3,.assign (.tmp 17),none⟩]
instance : Live r_k174_3 := ⟨[1,2]⟩
instance : Rd r_k174_3 := ⟨fun j => j == 1⟩
def t_k174 : SC :=
  (.seq (.ops false r_k174_1) (.seq (.ops false r_k174_2) (.seq (.opsW [] r_k174_3) .ret)))
theorem it_k174 : FnIs Tryz.prog 174 18 [.cell 2 150, .tmp 3] t_k174 := ⟨Tryz.f174, _, Tryz.func174, rfl, rfl, rfl, rfl, by kernel_rfl⟩

def r_k176_1 : List SOp := [⟨some 2,.box 150 (.tmp 0),none⟩,⟨some 3,.box 150 (.tmp 1),none⟩,⟨some 4,.assign (.const (.int .i64 0)),none⟩]
instance : Live r_k176_1 := ⟨[0,1]⟩
def r_k176_2 : List SOp := [⟨some 5,.fieldAddr 150 (.tmp 2) 0,none⟩,⟨some 6,.load 3 (.tmp 5),none⟩,⟨some 7,.fieldAddr 150 (.tmp 3) 0,none⟩,⟨some 8,.load 3 (.tmp 7),none⟩,⟨some 9,.binOp .sub 3 (.tmp 6) (.tmp 8) 3,none⟩,⟨some 4,.assign (.tmp 9),none⟩]
instance : Live r_k176_2 := ⟨[2,3]⟩
def t_k176 : SC :=
  (.seq (.ops false r_k176_1) (.seq (.ops false r_k176_2) .ret))
theorem it_k176 : FnIs Tryz.prog 176 10 [.tmp 4] t_k176 := ⟨Tryz.f176, _, Tryz.func176, rfl, rfl, rfl, rfl, by kernel_rfl⟩

def r_k177_1 : List SOp := [⟨some 3,.box 150 (.tmp 1),none⟩,⟨some 4,.assign (.const (.slice none 0 0)),none⟩]
instance : Live r_k177_1 := ⟨[0,1]⟩
def r_k177_2 : List SOp := [⟨some 6,.move (.tmp 0),none⟩,⟨some 7,.call ⟨.builtin .len,#[.tmp 6],#[118]⟩,none⟩,⟨some 5,.assign (.tmp 7),none⟩]
instance : Live r_k177_2 := ⟨[0,3]⟩
def r_k177_3 : List SOp := [⟨some 8,.move (.tmp 5),none⟩,⟨some 9,.binOp .gtr 3 (.tmp 8) (.const (.int .i64 0)) 3,none⟩,⟨some 10,.move (.tmp 9),none⟩,⟨some 11,.fieldAddr 150 (.tmp 3) 0,some ((some 10),true)⟩,⟨some 12,.load 3 (.tmp 11),some ((some 10),true)⟩,⟨some 13,.move (.tmp 0),some ((some 10),true)⟩,⟨some 14,.move (.tmp 5),some ((some 10),true)⟩,⟨some 15,.binOp .sub 3 (.tmp 14) (.const (.int .i64 1)) 3,some ((some 10),true)⟩,⟨some 16,.indexAddr 118 (.tmp 13) (.tmp 15),some ((some 10),true)⟩,⟨some 17,.fieldAddr 150 (.tmp 16) 1,some ((some 10),true)⟩,⟨some 18,.load 3 (.tmp 17),some ((some 10),true)⟩,⟨some 19,.binOp .add 3 (.tmp 18) (.const (.int .i64 1)) 3,some ((some 10),true)⟩,⟨some 20,.binOp .leq 3 (.tmp 12) (.tmp 19) 3,some ((some 10),true)⟩,⟨some 21,.pick (.tmp 10) (.tmp 20) (.const (.bool false)),none⟩]
instance : Live r_k177_3 := ⟨[0,3,5]⟩
def r_k177_4 : List SOp := [⟨some 22,.move (.tmp 0),none⟩,⟨some 23,.move (.tmp 5),none⟩,⟨some 24,.binOp .sub 3 (.tmp 23) (.const (.int .i64 1)) 3,none⟩,⟨some 25,.move (.tmp 0),none⟩,⟨some 26,.move (.tmp 5),none⟩,⟨some 27,.binOp .sub 3 (.tmp 26) (.const (.int .i64 1)) 3,none⟩,⟨some 28,.indexAddr 118 (.tmp 25) (.tmp 27),none⟩,⟨some 29,.fieldAddr 150 (.tmp 28) 1,none⟩,⟨some 30,.load 3 (.tmp 29),none⟩,⟨some 31,.fieldAddr 150 (.tmp 3) 1,none⟩,⟨some 32,.load 3 (.tmp 31),none⟩,⟨some 33,.call ⟨.builtin .max,#[.tmp 30,.tmp 32],#[3,3]⟩,none⟩,⟨some 34,.indexAddr 118 (.tmp 22) (.tmp 24),none⟩,⟨some 35,.fieldAddr 150 (.tmp 34) 1,none⟩,⟨none,.store 3 (.tmp 35) (.tmp 33),none⟩]
instance : Live r_k177_4 := ⟨[0,3,5]⟩
def r_k177_5 : List SOp := [⟨some 36,.move (.tmp 0),none⟩,⟨some 4,.assign (.tmp 36),none⟩]
instance : Live r_k177_5 := ⟨[0]⟩
def r_k177_6 : List SOp := [⟨some 37,.move (.tmp 0),none⟩,⟨some 38,.load 150 (.tmp 3),none⟩,⟨some 39,.buildSlice 118 1 #[(0,.tmp 38)],none⟩,⟨some 40,.call ⟨.builtin .append,#[.tmp 37,.tmp 39],#[118,118]⟩,none⟩,⟨some 4,.assign (.tmp 40),none⟩]
instance : Live r_k177_6 := ⟨[0,3]⟩
def t_k177 : SC :=
  (.seq (.ops false r_k177_1) (.seq (.seq (.ops false r_k177_2) (.seq (.ops true r_k177_3) (.cond (.tmp 21) (.seq (.ops true r_k177_4) (.seq (.ops false r_k177_5) .ret)) .skip))) (.seq (.ops false r_k177_6) .ret)))
theorem it_k177 : FnIs Tryz.prog 177 41 [.tmp 4] t_k177 := ⟨Tryz.f177, _, Tryz.func177, rfl, rfl, rfl, rfl, by kernel_rfl⟩

abbrev Rn := Int × Int
def encR (r : Rn) : AVal := .agg [.int .i64 r.1, .int .i64 r.2]
def clipR (r : Rn) : Rn := (max r.1 1, min r.2 1000000000)
theorem ev_k174 (r : Rn) : Ev (En Tryz.prog rfl).P 174 [encR r] (.ret (.tup [encR (clipR r), .bool (decide ((clipR r).1 ≤ (clipR r).2))])) := by
  refine Ev.of_body it_k174 (by simp) (Run.start ?_)
  unfold t_k174 encR
  (focus (have hF := True.intro; (repeat' (first | refine go0 (k:=?_) | fail)); all_goals clear hF))
  ((with_reducible apply toW); refine stW (fun j => j == 1) (k:=?_))
  (focus (have hF := True.intro; (repeat' (first | refine go0 (k:=?_) | fail)); all_goals clear hF))
  exact Fin.all rfl rfl rfl
theorem wrap_id {x : Int} (h : -9223372036854775808 ≤ x ∧ x ≤ 9223372036854775807) : IntKind.i64.wrap x = x := by
  simp only [IntKind.wrap, IntKind.bits, IntKind.signed]
  simp
  omega
theorem ev_k176 (x y : Rn) (hx : -1000000000000 ≤ x.1 ∧ x.1 ≤ 1000000000000) (hy : -1000000000000 ≤ y.1 ∧ y.1 ≤ 1000000000000) : Ev (En Tryz.prog rfl).P 176 [encR x, encR y] (.ret (.int .i64 (x.1 - y.1))) := by
  refine Ev.of_body it_k176 (by simp) (Run.start ?_)
  have hw : IntKind.i64.wrap (x.1 - y.1) = x.1 - y.1 := wrap_id (by omega)
  unfold t_k176 encR
  (focus (have hF := @hw; (repeat' (first | refine go0 (k:=?_) | fail)); all_goals clear hF))
  exact Fin.all rfl rfl rfl
def encRs (l : List Rn) : List AVal := l.map encR
theorem encR_stb (r : Rn) : (encR r).stb = true := rfl
theorem encRs_stb (l : List Rn) : stbs (encRs l) = true := stbs_map encR_stb
theorem encRs_len (l : List Rn) : (encRs l).length = l.length := by simp [encRs]
def addR (out : List Rn) (r : Rn) : List Rn :=
  match out.getLast? with
  | some l => if r.1 ≤ l.2 + 1 then out.dropLast ++ [(l.1, max l.2 r.2)] else out ++ [r]
  | none => [r]
theorem addR_nil (r : Rn) : addR [] r = [r] := rfl
theorem addR_snoc (l : List Rn) (x r : Rn) : addR (l ++ [x]) r = if r.1 ≤ x.2 + 1 then l ++ [(x.1, max x.2 r.2)] else l ++ [x] ++ [r] := by
  simp [addR]
theorem ev_k177 (out : List Rn) (r : Rn) (hb : ∀ x ∈ out, -1000000000000 ≤ x.2 ∧ x.2 ≤ 1000000000000) (hl : out.length ≤ 1000000000) :
    EvOwn (En Tryz.prog rfl).P 177 [.undef, encR r] 0 2 (encRs out) true .undef (encRs (addR out r)) := by
  refine EvOwn.of_body it_k177 (by simp) (Run.start ?_)
  unfold t_k177 encR initO
  rcases List.eq_nil_or_concat out with rfl | ⟨l, x, rfl⟩
  · have e0 : encRs [] = [] := rfl
    rw [e0]
    (focus (have hF := True.intro; (repeat' (first | refine go0 (k:=?_) | fail)); all_goals clear hF))
    exact Fin.done ⟨_, rfl, rfl, encRs_stb _⟩
  · simp only [List.concat_eq_append] at *
    have hbx := hb x (by simp)
    rw [addR_snoc]
    have hlen : (encRs (l ++ [x])).length = l.length + 1 := by simp [encRs]
    have hget : (encRs (l ++ [x]))[l.length]? = some (.agg [.int .i64 x.1, .int .i64 x.2]) := by simp [encRs, encR]
    have hset : ∀ a b, (encRs (l ++ [x])).set l.length (.agg [.int .i64 a, .int .i64 b]) = encRs (l ++ [(a, b)]) := fun a b => by simp [encRs, encR]
    have happ : ∀ a b, encRs (l ++ [x]) ++ [.agg [.int .i64 a, .int .i64 b]] = encRs (l ++ [x] ++ [(a, b)]) := fun a b => by simp [encRs, encR]
    generalize hL : encRs (l ++ [x]) = L at *
    generalize hm : l.length = m at *
    have hm2 : m ≤ 1000000000 := by simp at hl; omega
    have e1 : decide (0 < ((m + 1 : Nat) : Int)) = true := by simp only [decide_eq_true_eq]; omega
    have e2 : IntKind.i64.wrap (((m + 1 : Nat) : Int) - 1) = (m : Int) := by rw [wrap_id (by omega)]; omega
    have e3 : (0 ≤ (m : Int)) = True := by simp
    have e4 : ((m : Int) < ((m + 1 : Nat) : Int)) = True := by simp only [eq_iff_iff, iff_true]; omega
    have e5 : IntKind.i64.wrap (x.2 + 1) = x.2 + 1 := wrap_id (by omega)
    have e6 : ((m + 1 + 1) * 16 ≤ 70368744177664) = True := by simp only [eq_iff_iff, iff_true]; omega
    have e7 : (m + 1 + 1 ≤ 4611686018427387904) = True := by simp only [eq_iff_iff, iff_true]; omega
    (focus (have hF := (And.intro (And.intro (And.intro @hlen @e1) (And.intro @e2 (And.intro @e3 @e4))) (And.intro (And.intro @e5 (And.intro @e6 @e7)) (And.intro @hget (And.intro @hset @happ)))); (repeat' (first | refine go0 (k:=?_) | fail)); all_goals clear hF))
    refine Run.cond _ rfl (fun hc => ?_) (fun hc => ?_)
    · simp only [decide_eq_true_eq] at hc
      rw [if_pos hc]
      (focus (have hF := (And.intro (And.intro (And.intro @hlen @e1) (And.intro @e2 (And.intro @e3 @e4))) (And.intro (And.intro @e5 (And.intro @e6 @e7)) (And.intro @hget (And.intro @hset @happ)))); (repeat' (first | refine go0 (k:=?_) | fail)); all_goals clear hF))
      exact Fin.done ⟨_, rfl, rfl, encRs_stb _⟩
    · simp only [decide_eq_false_iff_not] at hc
      rw [if_neg hc]
      (focus (have hF := (And.intro (And.intro (And.intro @hlen @e1) (And.intro @e2 (And.intro @e3 @e4))) (And.intro (And.intro @e5 (And.intro @e6 @e7)) (And.intro @hget (And.intro @hset @happ)))); (repeat' (first | refine go0 (k:=?_) | fail)); all_goals clear hF))
      exact Fin.done ⟨_, rfl, rfl, encRs_stb _⟩

def r_k162_1 : List SOp := [⟨some 2,.assign (.const (.slice none 0 0)),none⟩]
instance : Live r_k162_1 := ⟨[0]⟩
def r_k162_2 : List SOp := [⟨some 3,.move (.tmp 0),none⟩,⟨some 4,.binOp .eql 118 (.tmp 3) (.const (.slice none 0 0)) 118,none⟩]
instance : Live r_k162_2 := ⟨[0]⟩
def r_k162_3 : List SOp := [⟨some 2,.assign (.const (.slice none 0 0)),none⟩]
instance : Live r_k162_3 := ⟨[]⟩
def r_k162_4 : List SOp := [⟨some 5,.buildSlice 118 0 #[],none⟩,⟨some 6,.move (.tmp 0),none⟩,⟨some 7,.call ⟨.builtin .append,#[.tmp 5,.tmp 6],#[118,118]⟩,none⟩,⟨some 2,.assign (.tmp 7),none⟩]
instance : Live r_k162_4 := ⟨[0]⟩
def t_k162 : SC :=
  (.seq (.ops false r_k162_1) (.seq (.seq (.ops false r_k162_2) (.cond (.tmp 4) (.seq (.ops false r_k162_3) .ret) .skip)) (.seq (.ops false r_k162_4) .ret)))
theorem it_k162 : FnIs Tryz.prog 162 8 [.tmp 2] t_k162 := ⟨Tryz.f162, _, Tryz.func162, rfl, rfl, rfl, rfl, by kernel_rfl⟩

def r_k130_1 : List SOp := [⟨some 2,.assign (.const (.slice none 0 0)),none⟩]
instance : Live r_k130_1 := ⟨[0]⟩
def r_k130_2 : List SOp := [⟨some 3,.move (.tmp 0),none⟩,⟨some 4,.binOp .eql 24 (.tmp 3) (.const (.slice none 0 0)) 24,none⟩]
instance : Live r_k130_2 := ⟨[0]⟩
def r_k130_3 : List SOp := [⟨some 2,.assign (.const (.slice none 0 0)),none⟩]
instance : Live r_k130_3 := ⟨[]⟩
def r_k130_4 : List SOp := [⟨some 5,.buildSlice 24 0 #[],none⟩,⟨some 6,.move (.tmp 0),none⟩,⟨some 7,.call ⟨.builtin .append,#[.tmp 5,.tmp 6],#[24,24]⟩,none⟩,⟨some 2,.assign (.tmp 7),none⟩]
instance : Live r_k130_4 := ⟨[0]⟩
def t_k130 : SC :=
  (.seq (.ops false r_k130_1) (.seq (.seq (.ops false r_k130_2) (.cond (.tmp 4) (.seq (.ops false r_k130_3) .ret) .skip)) (.seq (.ops false r_k130_4) .ret)))
theorem it_k130 : FnIs Tryz.prog 130 8 [.tmp 2] t_k130 := ⟨Tryz.f130, _, Tryz.func130, rfl, rfl, rfl, rfl, by kernel_rfl⟩

theorem ev_k162 (l : List Rn) (hl : l.length ≤ 1000000000) : Ev (En Tryz.prog rfl).P 162 [.sl 2 (encRs l)] (.ret (.sl 2 (encRs l))) := by
  refine Ev.of_body it_k162 (by simp) (Run.start ?_)
  unfold t_k162
  cases l with
  | nil =>
    have e0 : encRs [] = [] := rfl
    rw [e0]
    (focus (have hF := True.intro; (repeat' (first | refine go0 (k:=?_) | fail)); all_goals clear hF))
    refine awp_hook (Hook.nil_eq (En Tryz.prog rfl).hT (sz := 2) TE_118 (by simp only [opS, opA, ev, cst, upd, evs, evp, initT, initO, NoM, En_TE, En_EQ, En_P, Option.getD, Option.map_some, Option.map_none, List.map_cons, List.map_nil, List.getElem?_cons_zero, List.getElem?_cons_succ, List.getElem?_nil, List.all_cons, List.all_nil, List.length_cons, List.length_nil, List.take_succ_cons, List.take_zero, List.drop_succ_cons, List.drop_zero, List.set_cons_zero, List.set_cons_succ, List.cons_append, List.nil_append, List.append_nil, List.toList_toArray, allocA, boxA, loadA, storeA, fieldAddrA, fieldA, moveA, indexAddrA, indexA, buildA, fillA, placeS, partA, binA, arithA, shiftA, strA, eqvA, nilS, nilP, nilF, nils, unA, convA, lenA, builtinA, mmA, sliceA, boundA, appendA, srcA, buildSliceA, setP, makeSliceA, TyI.zeros, TyI.zeroElem, TyI.okElem, TD.isAgg, Value.cells, AVal.known, AVal.cells, AVal.one, AVal.plain, splice, AVal.withCells, reduceCtorEq, ↓reduceIte, if_true, if_false, Bool.false_eq_true, false_implies, true_implies, implies_true, true_and, and_true, and_self, ne_eq, not_true, not_false_iff, Bool.and_true, Bool.true_and, Bool.and_false, Bool.false_and, Bool.or_true, Bool.true_or, Bool.or_false, Bool.false_or, Bool.not_true, Bool.not_false, beq_self_eq_true, Nat.reduceAdd, Nat.reduceMul, Nat.reduceLeDiff, Nat.reduceEqDiff, Nat.reduceBEq, Nat.mul_one, Nat.le_refl, Nat.zero_add, Nat.add_zero, Option.isSome_some, decide_true, decide_false, pick_bool, pick_int, List.replicate_succ, List.replicate_zero, List.flatMap_cons, List.flatMap_nil, flat, tms, mms, Array.size_empty, dchk, rkOk, isStore, Op.operands, AVal.at, AVal.atR, opCls, clsO, clsW, Option.map_some, List.contains_cons, List.contains_nil, List.isEmpty_nil, List.isEmpty_cons, Int.toNat_natCast, Int.natCast_nonneg, Int.reduceLE, Int.reduceLT, Int.reduceToNat, Nat.reduceLT, Nat.reduceSub, Int.reduceNeg, Int.reduceEq])) ?_
    rintro v M' ⟨rfl, b, rfl⟩
    dsimp only [AS.put]
    (focus (have hF := True.intro; (repeat' (first | refine go0 (k:=?_) | fail)); all_goals clear hF))
    refine Run.cond _ rfl (fun hc => ?_) (fun hc => ?_)
    · (focus (have hF := True.intro; (repeat' (first | refine go0 (k:=?_) | fail)); all_goals clear hF))
      exact Fin.nil rfl
    · (focus (have hF := True.intro; (repeat' (first | refine go0 (k:=?_) | fail)); all_goals clear hF))
      exact Fin.tmp' rfl rfl
  | cons x l =>
    have e1 : encRs (x :: l) = encR x :: encRs l := rfl
    have e2 : (encRs l).length = l.length := encRs_len l
    have e3 : ((l.length + 1) * 16 ≤ 70368744177664) = True := by simp only [eq_iff_iff, iff_true]; simp at hl; omega
    have e4 : (l.length + 1 ≤ 4611686018427387904) = True := by simp only [eq_iff_iff, iff_true]; simp at hl; omega
    rw [e1]
    (focus (have hF := (And.intro @e2 (And.intro @e3 @e4)); (repeat' (first | refine go0 (k:=?_) | fail)); all_goals clear hF))
    exact Fin.tmp' rfl (encRs_stb (x :: l))
def encI (n : Int) : AVal := .int .i64 n
def encIs (l : List Int) : List AVal := l.map encI
theorem encIs_stb (l : List Int) : stbs (encIs l) = true := stbs_map fun _ => rfl
theorem encIs_len (l : List Int) : (encIs l).length = l.length := by simp [encIs]
theorem ev_k130 (l : List Int) (hl : l.length ≤ 1000000000) : Ev (En Tryz.prog rfl).P 130 [.sl 1 (encIs l)] (.ret (.sl 1 (encIs l))) := by
  refine Ev.of_body it_k130 (by simp) (Run.start ?_)
  unfold t_k130
  cases l with
  | nil =>
    have e0 : encIs [] = [] := rfl
    rw [e0]
    (focus (have hF := True.intro; (repeat' (first | refine go0 (k:=?_) | fail)); all_goals clear hF))
    refine awp_hook (Hook.nil_eq (En Tryz.prog rfl).hT (sz := 1) TE_24 (by simp only [opS, opA, ev, cst, upd, evs, evp, initT, initO, NoM, En_TE, En_EQ, En_P, Option.getD, Option.map_some, Option.map_none, List.map_cons, List.map_nil, List.getElem?_cons_zero, List.getElem?_cons_succ, List.getElem?_nil, List.all_cons, List.all_nil, List.length_cons, List.length_nil, List.take_succ_cons, List.take_zero, List.drop_succ_cons, List.drop_zero, List.set_cons_zero, List.set_cons_succ, List.cons_append, List.nil_append, List.append_nil, List.toList_toArray, allocA, boxA, loadA, storeA, fieldAddrA, fieldA, moveA, indexAddrA, indexA, buildA, fillA, placeS, partA, binA, arithA, shiftA, strA, eqvA, nilS, nilP, nilF, nils, unA, convA, lenA, builtinA, mmA, sliceA, boundA, appendA, srcA, buildSliceA, setP, makeSliceA, TyI.zeros, TyI.zeroElem, TyI.okElem, TD.isAgg, Value.cells, AVal.known, AVal.cells, AVal.one, AVal.plain, splice, AVal.withCells, reduceCtorEq, ↓reduceIte, if_true, if_false, Bool.false_eq_true, false_implies, true_implies, implies_true, true_and, and_true, and_self, ne_eq, not_true, not_false_iff, Bool.and_true, Bool.true_and, Bool.and_false, Bool.false_and, Bool.or_true, Bool.true_or, Bool.or_false, Bool.false_or, Bool.not_true, Bool.not_false, beq_self_eq_true, Nat.reduceAdd, Nat.reduceMul, Nat.reduceLeDiff, Nat.reduceEqDiff, Nat.reduceBEq, Nat.mul_one, Nat.le_refl, Nat.zero_add, Nat.add_zero, Option.isSome_some, decide_true, decide_false, pick_bool, pick_int, List.replicate_succ, List.replicate_zero, List.flatMap_cons, List.flatMap_nil, flat, tms, mms, Array.size_empty, dchk, rkOk, isStore, Op.operands, AVal.at, AVal.atR, opCls, clsO, clsW, Option.map_some, List.contains_cons, List.contains_nil, List.isEmpty_nil, List.isEmpty_cons, Int.toNat_natCast, Int.natCast_nonneg, Int.reduceLE, Int.reduceLT, Int.reduceToNat, Nat.reduceLT, Nat.reduceSub, Int.reduceNeg, Int.reduceEq])) ?_
    rintro v M' ⟨rfl, b, rfl⟩
    dsimp only [AS.put]
    (focus (have hF := True.intro; (repeat' (first | refine go0 (k:=?_) | fail)); all_goals clear hF))
    refine Run.cond _ rfl (fun hc => ?_) (fun hc => ?_)
    · (focus (have hF := True.intro; (repeat' (first | refine go0 (k:=?_) | fail)); all_goals clear hF))
      exact Fin.nil rfl
    · (focus (have hF := True.intro; (repeat' (first | refine go0 (k:=?_) | fail)); all_goals clear hF))
      exact Fin.tmp' rfl rfl
  | cons x l =>
    have e1 : encIs (x :: l) = encI x :: encIs l := rfl
    have e2 : (encIs l).length = l.length := encIs_len l
    have e3 : ((l.length + 1) * 8 ≤ 70368744177664) = True := by simp only [eq_iff_iff, iff_true]; simp at hl; omega
    have e4 : (l.length + 1 ≤ 4611686018427387904) = True := by simp only [eq_iff_iff, iff_true]; simp at hl; omega
    rw [e1]
    (focus (have hF := (And.intro @e2 (And.intro @e3 @e4)); (repeat' (first | refine go0 (k:=?_) | fail)); all_goals clear hF))
    exact Fin.tmp' rfl (encIs_stb (x :: l))

theorem encRs_get {l : List Rn} {i : Nat} {r : Rn} (h : l[i]? = some r) : (encRs l)[i]? = some (encR r) := by simp [encRs, h]
theorem foldl_take {α β : Type} (f : β → α → β) (a : β) (l : List α) {i : Nat} {x : α} (h : l[i]? = some x) : (l.take (i + 1)).foldl f a = f ((l.take i).foldl f a) x := by
  rw [List.take_add_one, h]
  simp

def r_k86_1 : List SOp := [⟨some 2,.assign (.const (.pointer none)),none⟩]
instance : Live r_k86_1 := ⟨[0]⟩
def r_k86_2 : List SOp := [⟨some 9,.build 120 #[],none⟩,⟨some 10,.box 120 (.tmp 9),none⟩,⟨some 3,.assign (.tmp 10),none⟩]
instance : Live r_k86_2 := ⟨[0]⟩
def r_k86_3 : List SOp := [⟨some 11,.move (.tmp 0),none⟩,⟨some 12,.call ⟨.builtin .len,#[.tmp 11],#[101]⟩,none⟩,⟨some 13,.move (.const (.int .i64 0)),none⟩]
instance : Live r_k86_3 := ⟨[0,3]⟩
def r_k86_4 : List SOp := [⟨some 14,.binOp .lss 3 (.tmp 13) (.tmp 12) 3,none⟩]
instance : Live r_k86_4 := ⟨[3,11,12,13]⟩
def r_k86_5 : List SOp := [⟨some 15,.indexAddr 101 (.tmp 11) (.tmp 13),none⟩,⟨some 16,.load 27 (.tmp 15),none⟩,⟨some 5,.alloc 27,none⟩,⟨none,.store 27 (.tmp 5) (.tmp 16),none⟩]
instance : Live r_k86_5 := ⟨[3,11,12,13]⟩
def r_k86_6 : List SOp := [⟨some 17,.fieldAddr 27 (.tmp 5) 0,none⟩,⟨some 18,.load 24 (.tmp 17),none⟩,⟨some 19,.call ⟨.builtin .len,#[.tmp 18],#[24]⟩,none⟩,⟨some 20,.call ⟨.builtin .min,#[.tmp 19,.const (.int .i64 16)],#[3,3]⟩,none⟩,⟨some 21,.move (.const (.int .i64 0)),none⟩]
instance : Live r_k86_6 := ⟨[3,5,11,12,13]⟩
def r_k86_7 : List SOp := [⟨some 22,.binOp .lss 3 (.tmp 21) (.tmp 20) 3,none⟩]
instance : Live r_k86_7 := ⟨[3,5,11,12,13,20,21]⟩
def r_k86_8 : List SOp := [⟨some 23,.move (.tmp 21),none⟩,⟨some 6,.assign (.tmp 23),none⟩]
instance : Live r_k86_8 := ⟨[3,5,11,12,13,20,21]⟩
def r_k86_9 : List SOp := [⟨some 24,.move (.tmp 3),none⟩,⟨some 25,.move (.tmp 6),none⟩,⟨some 26,.move (.tmp 3),none⟩,⟨some 27,.move (.tmp 6),none⟩,⟨some 28,.nilCheck (.tmp 26),none⟩,⟨some 29,.indexAddr 120 (.tmp 28) (.tmp 27),none⟩,⟨some 30,.load 118 (.tmp 29),none⟩,⟨some 31,.fieldAddr 27 (.tmp 5) 0,none⟩,⟨some 32,.load 24 (.tmp 31),none⟩,⟨some 33,.move (.tmp 6),none⟩,⟨some 34,.indexAddr 24 (.tmp 32) (.tmp 33),none⟩,⟨some 35,.load 3 (.tmp 34),none⟩,⟨some 36,.build 150 #[(0,.const (.int .i64 1)),(1,.tmp 35)],none⟩,⟨some 37,.buildSlice 118 1 #[(0,.tmp 36)],none⟩,⟨some 38,.call ⟨.builtin .append,#[.tmp 30,.tmp 37],#[118,118]⟩,none⟩,⟨some 39,.nilCheck (.tmp 24),none⟩,⟨some 40,.indexAddr 120 (.tmp 39) (.tmp 25),none⟩,⟨none,.store 118 (.tmp 40) (.tmp 38),none⟩]
instance : Live r_k86_9 := ⟨[3,5,6,11,12,13,20,21]⟩
instance : Rd r_k86_9 := ⟨fun j => j == 5⟩
def r_k86_10 : List SOp := [⟨some 41,.binOp .add 3 (.tmp 21) (.const (.int .i64 1)) 3,none⟩,⟨some 21,.move (.tmp 41),none⟩]
instance : Live r_k86_10 := ⟨[3,5,11,12,13,20,21]⟩
def r_k86_11 : List SOp := [⟨some 42,.fieldAddr 27 (.tmp 5) 1,none⟩,⟨some 43,.load 25 (.tmp 42),none⟩,⟨some 44,.call ⟨.builtin .len,#[.tmp 43],#[25]⟩,none⟩,⟨some 45,.move (.const (.int .i64 0)),none⟩]
instance : Live r_k86_11 := ⟨[3,5,11,12,13]⟩
def r_k86_12 : List SOp := [⟨some 46,.binOp .lss 3 (.tmp 45) (.tmp 44) 3,none⟩]
instance : Live r_k86_12 := ⟨[3,11,12,13,43,44,45]⟩
def r_k86_13 : List SOp := [⟨some 47,.indexAddr 25 (.tmp 43) (.tmp 45),none⟩,⟨some 48,.load 89 (.tmp 47),none⟩,⟨some 8,.alloc 89,none⟩,⟨none,.store 89 (.tmp 8) (.tmp 48),none⟩]
instance : Live r_k86_13 := ⟨[3,11,12,13,43,44,45]⟩
def r_k86_14 : List SOp := [⟨some 49,.fieldAddr 89 (.tmp 8) 0,none⟩,⟨some 50,.load 3 (.tmp 49),none⟩,⟨some 51,.binOp .geq 3 (.tmp 50) (.const (.int .i64 0)) 3,none⟩,⟨some 52,.move (.tmp 51),none⟩,⟨some 53,.fieldAddr 89 (.tmp 8) 0,some ((some 52),true)⟩,⟨some 54,.load 3 (.tmp 53),some ((some 52),true)⟩,⟨some 55,.binOp .lss 3 (.tmp 54) (.const (.int .i64 16)) 3,some ((some 52),true)⟩,⟨some 56,.pick (.tmp 52) (.tmp 55) (.const (.bool false)),none⟩]
instance : Live r_k86_14 := ⟨[3,8,11,12,13,43,44,45]⟩
def r_k86_15 : List SOp := [⟨some 57,.move (.tmp 3),none⟩,⟨some 58,.fieldAddr 89 (.tmp 8) 0,none⟩,⟨some 59,.load 3 (.tmp 58),none⟩,⟨some 60,.move (.tmp 3),none⟩,⟨some 61,.fieldAddr 89 (.tmp 8) 0,none⟩,⟨some 62,.load 3 (.tmp 61),none⟩,⟨some 63,.nilCheck (.tmp 60),none⟩,⟨some 64,.indexAddr 120 (.tmp 63) (.tmp 62),none⟩,⟨some 65,.load 118 (.tmp 64),none⟩,⟨some 66,.fieldAddr 89 (.tmp 8) 1,none⟩,⟨some 67,.load 3 (.tmp 66),none⟩,⟨some 68,.fieldAddr 89 (.tmp 8) 2,none⟩,⟨some 69,.load 3 (.tmp 68),none⟩,⟨some 70,.build 150 #[(0,.tmp 67),(1,.tmp 69)],none⟩,⟨some 71,.buildSlice 118 1 #[(0,.tmp 70)],none⟩,⟨some 72,.call ⟨.builtin .append,#[.tmp 65,.tmp 71],#[118,118]⟩,none⟩,⟨some 73,.nilCheck (.tmp 57),none⟩,⟨some 74,.indexAddr 120 (.tmp 73) (.tmp 59),none⟩,⟨none,.store 118 (.tmp 74) (.tmp 72),none⟩]
instance : Live r_k86_15 := ⟨[3,8,11,12,13,43,44,45]⟩
instance : Rd r_k86_15 := ⟨fun j => j == 8⟩
def r_k86_16 : List SOp := [⟨some 75,.binOp .add 3 (.tmp 45) (.const (.int .i64 1)) 3,none⟩,⟨some 45,.move (.tmp 75),none⟩]
instance : Live r_k86_16 := ⟨[3,11,12,13,43,44,45]⟩
def r_k86_17 : List SOp := [⟨some 76,.binOp .add 3 (.tmp 13) (.const (.int .i64 1)) 3,none⟩,⟨some 13,.move (.tmp 76),none⟩]
instance : Live r_k86_17 := ⟨[3,11,12,13]⟩
def r_k86_18 : List SOp := [⟨some 77,.move (.tmp 3),none⟩,⟨some 2,.assign (.tmp 77),none⟩]
instance : Live r_k86_18 := ⟨[3]⟩
def t_k86_l2 : SC :=
  (.seq (.ops false r_k86_7) (.seq (.cond (.tmp 22) .skip (.exit 2)) (.seq (.block 3 (.seq (.ops false r_k86_8) (.opsW [30] r_k86_9))) (.ops false r_k86_10))))
def t_k86_l3 : SC :=
  (.seq (.ops false r_k86_12) (.seq (.cond (.tmp 46) .skip (.exit 4)) (.seq (.block 5 (.seq (.ops false r_k86_13) (.seq (.ops false r_k86_14) (.cond (.tmp 56) (.opsW [65] r_k86_15) .skip)))) (.ops false r_k86_16))))
def t_k86_l1 : SC :=
  (.seq (.ops false r_k86_4) (.seq (.cond (.tmp 14) .skip (.exit 0)) (.seq (.block 1 (.seq (.ops false r_k86_5) (.seq (.seq (.ops false r_k86_6) (.block 2 (.loop t_k86_l2))) (.seq (.ops false r_k86_11) (.block 4 (.loop t_k86_l3)))))) (.ops false r_k86_17))))
def t_k86 : SC :=
  (.seq (.ops false r_k86_1) (.seq (.ops false r_k86_2) (.seq (.seq (.ops false r_k86_3) (.block 0 (.loop t_k86_l1))) (.seq (.ops false r_k86_18) .ret))))
theorem it_k86 : FnIs Tryz.prog 86 78 [.tmp 2] t_k86 := ⟨Tryz.f86, _, Tryz.func86, rfl, rfl, rfl, rfl, by kernel_rfl⟩

abbrev Sn := Int × Int × Int
def encS (s : Sn) : AVal := .agg [.int .i64 s.1, .int .i64 s.2.1, .int .i64 s.2.2]
def encSs (l : List Sn) : List AVal := l.map encS
theorem encSs_stb (l : List Sn) : stbs (encSs l) = true := stbs_map fun _ => rfl
theorem encSs_len (l : List Sn) : (encSs l).length = l.length := by simp [encSs]
theorem encSs_get {l : List Sn} {i : Nat} {r : Sn} (h : l[i]? = some r) : (encSs l)[i]? = some (encS r) := by simp [encSs, h]
theorem encIs_get {l : List Int} {i : Nat} {r : Int} (h : l[i]? = some r) : (encIs l)[i]? = some (.int .i64 r) := by simp [encIs, h, encI]
structure Pst where
  vec : List Int
  cloud : List Sn
def encP (p : Pst) : AVal := .agg [.sl 1 (encIs p.vec), .sl 3 (encSs p.cloud)]
def encPs (l : List Pst) : List AVal := l.map encP
theorem encP_stb (p : Pst) : (encP p).stb = true := by simp [encP, AVal.stb, stbs, encIs_stb, encSs_stb]
theorem encPs_stb (l : List Pst) : stbs (encPs l) = true := stbs_map encP_stb
theorem encPs_len (l : List Pst) : (encPs l).length = l.length := by simp [encPs]
theorem encPs_get {l : List Pst} {i : Nat} {r : Pst} (h : l[i]? = some r) : (encPs l)[i]? = some (encP r) := by simp [encPs, h]
abbrev Tab := List (List Rn)
def encT (t : Tab) : List AVal := t.map fun l => .own 2 (encRs l)
theorem encT_len (t : Tab) : (encT t).length = t.length := by simp [encT]
def addAt (t : Tab) (r : Nat) (x : Rn) : Tab := t.set r (t.getD r [] ++ [x])
theorem addAt_len (t : Tab) (r : Nat) (x : Rn) : (addAt t r x).length = t.length := by simp [addAt]
theorem encT_get {t : Tab} {r : Nat} (h : r < t.length) : (encT t)[r]? = some (.own 2 (encRs (t.getD r []))) := by
  simp [encT, h]
theorem encT_hole {t : Tab} {r : Nat} (h : r < t.length) : ((encT t).set r .hole)[r]? = some .hole := by
  simp [encT, h]
theorem encT_add {t : Tab} {r : Nat} (h : r < t.length) (x : Rn) : ((encT t).set r .hole).set r (.own 2 (encRs (t.getD r []) ++ [.agg [.int .i64 x.1, .int .i64 x.2]])) = encT (addAt t r x) := by
  rw [List.set_set]
  simp [encT, addAt, encRs, encR, List.map_set]
theorem encT_no (K : Nat → Bool) (t : Tab) : (ABlk.cells (encT t)).no K = true := by
  simp only [ABlk.no, List.all_eq_true]
  intro x hx
  obtain ⟨l, _, rfl⟩ := List.mem_map.1 hx
  simp only [AVal.noC, List.all_eq_true]
  intro y hy
  exact no_of_stb (stbs_flat (encRs_stb l) y hy)
def vecAt (v : List Int) (i : Nat) : Int := v.getD i 0
def putVec (v : List Int) (t : Tab) (i : Nat) : Tab := addAt t i (1, vecAt v i)
def addVec (v : List Int) (t : Tab) : Tab := (List.range (min v.length 16)).foldl (putVec v) t
def putSn (t : Tab) (s : Sn) : Tab := if 0 ≤ s.1 ∧ s.1 < 16 then addAt t s.1.toNat s.2 else t
def addCloud (c : List Sn) (t : Tab) : Tab := c.foldl putSn t
def openOne (t : Tab) (p : Pst) : Tab := addCloud p.cloud (addVec p.vec t)
def tab0 : Tab := List.replicate 16 []
def openT (ps : List Pst) : Tab := ps.foldl openOne tab0
def TabLe (t : Tab) (n : Nat) : Prop := t.length = 16 ∧ ∀ r, (t.getD r []).length ≤ n
theorem TabLe.add {t : Tab} {n : Nat} (h : TabLe t n) (r : Nat) (x : Rn) : TabLe (addAt t r x) (n + 1) := by
  refine ⟨by rw [addAt_len, h.1], fun q => ?_⟩
  unfold addAt
  rw [List.getD_eq_getElem?_getD, List.getElem?_set]
  split
  · split
    · simp; exact h.2 r
    · simp
  · have := h.2 q
    rw [List.getD_eq_getElem?_getD] at this
    omega
theorem TabLe.mono {t : Tab} {n m : Nat} (h : TabLe t n) (hm : n ≤ m) : TabLe t m := ⟨h.1, fun r => Nat.le_trans (h.2 r) hm⟩
theorem TabLe.range {v : List Int} {t : Tab} {n : Nat} (h : TabLe t n) : ∀ i, TabLe ((List.range i).foldl (putVec v) t) (n + i)
  | 0 => h
  | i + 1 => by
    rw [List.range_succ, List.foldl_append]
    exact (TabLe.range h i).add i _
theorem TabLe.putSn {t : Tab} {n : Nat} (h : TabLe t n) (s : Sn) : TabLe (putSn t s) (n + 1) := by
  unfold Avm.putSn
  split
  · exact h.add _ _
  · exact h.mono (by omega)
theorem TabLe.cloud {t : Tab} {n : Nat} (h : TabLe t n) : ∀ c : List Sn, TabLe (c.foldl Avm.putSn t) (n + c.length)
  | [] => h
  | s :: c => by
    have := TabLe.cloud (h.putSn s) c
    simp only [List.foldl_cons, List.length_cons]
    exact this.mono (by omega)
def wt (p : Pst) : Nat := p.vec.length + p.cloud.length
theorem TabLe.one {t : Tab} {n : Nat} (h : TabLe t n) (p : Pst) : TabLe (openOne t p) (n + wt p) := by
  have := ((TabLe.range (v := p.vec) h (min p.vec.length 16))).cloud p.cloud
  exact this.mono (by unfold wt; omega)
theorem TabLe.all {t : Tab} {n : Nat} (h : TabLe t n) : ∀ ps : List Pst, TabLe (ps.foldl openOne t) (n + (ps.map wt).sum)
  | [] => h
  | p :: ps => by
    have := TabLe.all (h.one p) ps
    simp only [List.foldl_cons, List.map_cons, List.sum_cons]
    exact this.mono (by omega)
theorem tab0_le : TabLe tab0 0 := ⟨rfl, fun r => by
  unfold tab0
  rw [List.getD_eq_getElem?_getD, List.getElem?_replicate]
  split <;> simp⟩
theorem take_sum_le {l : List Nat} (i : Nat) : (l.take i).sum ≤ l.sum := by
  induction l generalizing i with
  | nil => simp
  | cons x l ih => cases i with
    | zero => simp
    | succ i => simp only [List.take_succ_cons, List.sum_cons]; have := ih i; omega

theorem cells_int : Tryz.prog.cellsOf 3 = 1 := by kernel_rfl
theorem cells_ints : Tryz.prog.cellsOf 24 = 1 := by kernel_rfl
theorem cells_spans : Tryz.prog.cellsOf 25 = 1 := by kernel_rfl
theorem cells_Span : Tryz.prog.cellsOf 89 = 3 := by kernel_rfl
theorem cells_Dot : Tryz.prog.cellsOf 47 = 2 := by kernel_rfl
theorem cells_Past : Tryz.prog.cellsOf 27 = 2 := by kernel_rfl
theorem op_int : Opens Tryz.prog 3 Int inI64 (fun n => [.int .i64 n]) (fun _ => 1) := Opens.int Tryz.underlying3
theorem op_ints : Opens Tryz.prog 24 (List Int) (fun l => ∀ x ∈ l, inI64 x) (fun l => [.sl 1 (encIs l)]) (wtL fun _ => 1) :=
  Opens.slice (mk := encI) Tryz.underlying24 op_int cells_int (by decide) (fun _ => rfl) (fun _ => rfl) (fun x y hy => by simp at hy; subst hy; rfl)
def okS (s : Sn) : Prop := inI64 s.1 ∧ inI64 s.2.1 ∧ inI64 s.2.2
theorem op_Span : Opens Tryz.prog 89 Sn okS (fun s => [.int .i64 s.1, .int .i64 s.2.1, .int .i64 s.2.2]) (fun _ => 1) :=
  (Opens.struct Tryz.underlying89 cells_Span (OpensF.cons (k := 1) op_int (fun _ => rfl) cells_int rfl (OpensF.cons (k := 1) op_int (fun _ => rfl) cells_int rfl (OpensF.cons (k := 1) op_int (fun _ => rfl) cells_int rfl (OpensF.nil _))))).map
    (fun x => (x.1, x.2.1, x.2.2.1)) (fun x h => ⟨h.1, h.2.1, h.2.2.1⟩) (fun _ => rfl) (fun _ => Nat.le_add_left _ _)
theorem op_spans : Opens Tryz.prog 25 (List Sn) (fun l => ∀ x ∈ l, okS x) (fun l => [.sl 3 (encSs l)]) (wtL fun _ => 1) :=
  Opens.slice (mk := encS) Tryz.underlying25 op_Span
    cells_Span (by decide) (fun _ => rfl) (fun _ => rfl) (fun x y hy => by simp at hy; rcases hy with rfl | rfl | rfl <;> rfl)
def okD (s : Rn) : Prop := inI64 s.1 ∧ inI64 s.2
theorem op_Dot : Opens Tryz.prog 47 Rn okD (fun x => [.int .i64 x.1, .int .i64 x.2]) (fun _ => 1) :=
  (Opens.struct Tryz.underlying47 cells_Dot (OpensF.cons (k := 1) op_int (fun _ => rfl) cells_int rfl (OpensF.cons (k := 1) op_int (fun _ => rfl) cells_int rfl (OpensF.nil _)))).map
    (fun x => (x.1, x.2.1)) (fun x h => ⟨h.1, h.2.1⟩) (fun _ => rfl) (fun _ => Nat.le_add_left _ _)
def okP (p : Pst) : Prop := (∀ x ∈ p.vec, inI64 x) ∧ ∀ s ∈ p.cloud, okS s
theorem wtL_one {α : Type} (l : List α) : wtL (fun _ => 1) l = l.length + 1 := by
  unfold wtL
  induction l with
  | nil => rfl
  | cons x l ih => simp only [List.map_cons, List.sum_cons, List.length_cons]; omega
theorem op_Past : Opens Tryz.prog 27 Pst okP (fun p => [.sl 1 (encIs p.vec), .sl 3 (encSs p.cloud)]) wt :=
  (Opens.struct Tryz.underlying27 cells_Past (OpensF.cons (k := 1) op_ints (fun _ => rfl) cells_ints rfl (OpensF.cons (k := 1) op_spans (fun _ => rfl) cells_spans rfl (OpensF.nil _)))).map (fun x => ⟨x.1, x.2.1⟩) (fun x h => ⟨h.1, h.2.1⟩) (fun _ => rfl)
    (fun x => by show x.1.length + x.2.1.length ≤ wtL (fun _ => 1) x.1 + (wtL (fun _ => 1) x.2.1 + 0) + 1; rw [wtL_one, wtL_one]; omega)
structure Cas where
  a : Pst
  b : Pst
  c : Pst
  ds : List Rn
  rep : Int
  most : Int
theorem own : ownKnob Tryz.prog.godebug = none := by kernel_rfl

end Go.Proofs.YtpomanleabaafaaGreat.Avm
