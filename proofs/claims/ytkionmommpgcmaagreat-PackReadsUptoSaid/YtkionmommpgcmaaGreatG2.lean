/- Part 2 of the proof: lemmas. -/
import Derived.Test.YtkionmommpgcmaaGreatG1
import Derived.Still
import Derived.Test.YtkionmommpgcmaaGreatProg
import Derived.KernelRfl
set_option maxRecDepth 100000
set_option maxHeartbeats 4000000
set_option linter.unusedVariables false
set_option linter.unusedSimpArgs false
set_option linter.unusedSectionVars false
set_option linter.defProp false
namespace Go.Proofs.YtkionmommpgcmaaGreat.Avm
open Go.Proofs
theorem q6g {T T' : q12} {l : List Operand} (h : ∀ x ∈ l, ev T x = ev T' x) : evs T l = evs T' l := List.map_congr_left h
theorem ql9 {T T' : q12} {l : List (Nat × Operand)} (h : ∀ p ∈ l, ev T p.2 = ev T' p.2) : evp T l = evp T' l :=
 List.map_congr_left fun p hp => by simp [h p hp]
theorem zcm {TE : TyE} {EQ : TypeId → Bool} {T T' : q12} {M : Mem} {o : Oper} (h : ∀ x ∈ o.op.operands, ev T x = ev T' x) : opA TE EQ ⟨T, M⟩ o = opA TE EQ ⟨T', M⟩ o := by
 obtain ⟨dst, op, type, pos, after, guard⟩ := o
 simp only [opA]
 cases op <;> simp only [Op.operands] at h <;> (try rfl)
 case move x => simp only; rw [h x (by simp)]
 case assign x => simp only; rw [h x (by simp)]
 case pick c a b => simp only; rw [h c (by simp), h a (by simp), h b (by simp)]
 case box t x => simp only; rw [h x (by simp)]
 case build t ps => simp only; rw [ql9 fun p hp => h p.2 (by simp; exact ⟨p.1, by simpa using hp⟩)]
 case buildSlice t n ps => simp only; rw [ql9 fun p hp => h p.2 (by simp; exact ⟨p.1, by simpa using hp⟩)]
 case load t x => simp only; rw [h x (by simp)]
 case store t x y => simp only; rw [h x (by simp), h y (by simp)]
 case nilCheck x => simp only; rw [h x (by simp)]
 case binOp op t x y u => simp only; rw [h x (by simp), h y (by simp)]
 case unOp op t x => simp only; rw [h x (by simp)]
 case convert t u x => simp only; rw [h x (by simp)]
 case makeInterface t x => simp only; rw [h x (by simp)]
 case makeFunc f first caps =>
  cases f <;> simp only
  rw [q6g fun x hx => h x (by simp; exact .inr (by simpa using hx))]
 case makeSlice t x y => simp only; rw [h x (by simp), h y (by simp)]
 case slice t x lo hi mx =>
  have hx := h x (by simp)
  have hlo : lo.map (ev T) = lo.map (ev T') := by
   cases lo with
   | none => rfl
   | some l => simp [h l (by simp)]
  have hhi : hi.map (ev T) = hi.map (ev T') := by
   cases hi with
   | none => rfl
   | some l => simp [h l (by simp)]
  cases mx <;> simp only [hx, hlo, hhi]
 case fieldAddr t x f => simp only; rw [h x (by simp)]
 case field t x f => simp only; rw [h x (by simp)]
 case indexAddr t x y => simp only; rw [h x (by simp), h y (by simp)]
 case index t x y => simp only; rw [h x (by simp), h y (by simp)]
 case extract x i => simp only; rw [h x (by simp)]
 case makeMap t r => cases r <;> rfl
 case lookup t x k ok => simp only; rw [h x (by simp), h k (by simp)]
 case mapUpdate t m k x => simp only; rw [h m (by simp), h k (by simp), h x (by simp)]
 case call c =>
  obtain ⟨cl, args, ts⟩ := c
  cases cl <;> simp only
  rw [q6g fun x hx => h x (by simp [Call.operands]; simpa using hx)]
inductive Cls where | q | r | a | w | m
 deriving DecidableEq
def q40 : Op → Cls
 | .move _ | .assign _ | .pick .. | .build .. | .nilCheck _ | .unOp .. | .makeFunc .. | .fieldAddr .. | .field .. | .index .. | .extract .. | .makeInterface .. => .q
 | .buildSlice _ len _ => if len = 0 then .a else .q
 | .load .. | .binOp .. | .convert .. | .indexAddr .. | .slice .. | .lookup .. => .r
 | .call ⟨.value _, _, _⟩ => .r
 | .call ⟨.builtin .len, _, _⟩ => .r
 | .call ⟨.builtin .max, _, _⟩ => .q
 | .call ⟨.builtin .min, _, _⟩ => .q
 | .alloc _ | .box .. | .makeSlice .. | .makeMap .. => .a
 | _ => .w
def qaa (ws : List Nat) (dst : Option Tmp) (op : Op) : Cls :=
 match op, dst with
 | .load _ _, some t => if ws.contains t = true then .w else .r
 | .call ⟨.value _, _, _⟩, some t => if ws.contains t = true then .m else .r
 | op, _ => q40 op
def q7q (ws : Option (List Nat)) (dst : Option Tmp) (op : Op) : Cls :=
 match ws with
 | none => q40 op
 | some ws => qaa ws dst op
theorem q15 {ws : Option (List Nat)} {dst : Option Tmp} {op : Op} {c : Cls} (h : q7q ws dst op = c) (hc : c ≠ .w ∧ c ≠ .m) : q40 op = c := by
 unfold q7q at h
 cases ws with
 | none => exact h
 | some ws =>
  simp only at h
  unfold qaa at h
  split at h
  ·split at h
   ·exact absurd h.symm hc.1
   ·exact h
  ·split at h
   ·exact absurd h.symm hc.2
   ·exact h
  ·exact h
theorem opCls_m (op : Op) : q40 op ≠ .m := by
 unfold q40
 split <;> (try split) <;> simp
def q5s (k : Nat) : Bool := decide (900000 ≤ k)
theorem q5i {x : Option AVal} {v : AVal} {ups : List (Nat × ABlk)} (h : (x.map fun v => (v, ([] : List (Nat × ABlk)))) = some (v, ups)) : ups = [] := by
 cases x <;> simp at h
 exact h.2.symm ▸ rfl
theorem opA_q {TE : TyE} {EQ : TypeId → Bool} {T : q12} {M : Mem} {o : Oper} {v : AVal} {ups : List (Nat × ABlk)} (hc : q40 o.op = .q) (h : opA TE EQ ⟨T, M⟩ o = some (v, ups)) :
 ups = [] ∧ ∀ M', opA TE EQ ⟨T, M'⟩ o = some (v, []) := by
 obtain ⟨dst, op, type, pos, after, guard⟩ := o
 simp only [opA] at h ⊢
 cases op <;> simp only [q40, reduceCtorEq] at hc <;> (try simp only at h ⊢)
 case move x => simp at h; exact ⟨h.2.symm ▸ rfl, fun _ => by rw [h.1]⟩
 case assign x => simp at h; exact ⟨h.2.symm ▸ rfl, fun _ => by rw [h.1]⟩
 case pick c a b => split at h <;> simp at h; exact ⟨h.2.symm ▸ rfl, fun _ => by simp [h.1]⟩
 case build t ps => have := q5i h; subst this; exact ⟨rfl, fun _ => h⟩
 case buildSlice t n ps =>
  split at hc
  ·cases hc
  ·rename_i hn
   unfold q1l at h ⊢
   simp only [hn, if_false] at h ⊢
   split at h
   case h_2 => simp at h
   rename_i e b1 b2 b3 ht
   try simp only [ht]
   split at h
   case h_2 => simp at h
   rename_i ei he
   try simp only [he]
   split at h
   case isFalse => simp at h
   rename_i hok
   try simp only [hok]
   split at h
   case h_2 => simp at h
   rename_i xs hx
   try simp only [hx]
   split at h
   case isFalse => simp at h
   rename_i hall
   simp at h
   exact ⟨h.2.symm ▸ rfl, fun _ => by simp [hall, h.1]⟩
 case nilCheck x => split at h <;> simp at h <;> exact ⟨h.2.symm ▸ rfl, fun _ => by simp [h.1]⟩
 case unOp op t x => have := q5i h; subst this; exact ⟨rfl, fun _ => h⟩
 case makeInterface t x =>
  split at h
  case h_2 => simp at h
  split at h
  ·simp at h
  ·rename_i i hi hn
   simp at h; exact ⟨h.2.symm ▸ rfl, fun _ => by simp [hn, h.1]⟩
 case makeFunc f first caps =>
  cases f <;> simp only [reduceCtorEq] at h ⊢
  split at h
  ·rename_i hz
   simp at h; exact ⟨h.2.symm ▸ rfl, fun _ => by simp [hz, h.1]⟩
  ·simp at h
 case fieldAddr t x f => have := q5i h; subst this; exact ⟨rfl, fun _ => h⟩
 case field t x f => have := q5i h; subst this; exact ⟨rfl, fun _ => h⟩
 case index t x y => have := q5i h; subst this; exact ⟨rfl, fun _ => h⟩
 case extract x i =>
  split at h
  case h_2 => simp at h
  ·rename_i vs hv
   have := q5i h; subst this; exact ⟨rfl, fun _ => h⟩
 case call c =>
  obtain ⟨cl, args, ts⟩ := c
  cases cl <;> simp only [reduceCtorEq] at hc h ⊢
  rename_i b
  unfold q2o at h ⊢
  cases b <;> simp only [reduceCtorEq] at hc h ⊢
  all_goals
   split at h <;> first | (simp at h; done) | skip
   all_goals first | (have := q5i h; subst this; exact ⟨rfl, fun _ => by simpa using h⟩) | skip
  all_goals simp_all
theorem opA_a {TE : TyE} {EQ : TypeId → Bool} {T : q12} {M : Mem} {o : Oper} {v : AVal} {ups : List (Nat × ABlk)} (hc : q40 o.op = .a) (h : opA TE EQ ⟨T, M⟩ o = some (v, ups)) :
 ∃ d blk, o.dst = some d ∧ M d = none ∧ ups = [(d, blk)] ∧ ∀ M' : Mem, M' d = none → opA TE EQ ⟨T, M'⟩ o = some (v, ups) := by
 obtain ⟨dst, op, type, pos, after, guard⟩ := o
 simp only [opA] at h ⊢
 cases op <;> simp only [q40, reduceCtorEq] at hc <;> (try simp only at h ⊢)
 case alloc t =>
  unfold q7e at h ⊢
  split at h
  case h_2 => simp at h
  rename_i i d ht
  split at h
  case h_2 => simp at h
  rename_i hM
  simp at h
  obtain ⟨rfl, rfl⟩ := h
  exact ⟨d, _, rfl, hM, rfl, fun M' h' => by simp [ht, h']⟩
 case box t x =>
  unfold boxA at h ⊢
  split at h
  case h_2 => simp at h
  rename_i d
  split at h
  case isFalse => simp at h
  rename_i hk
  split at h
  case h_2 => simp at h
  rename_i hM
  simp at h
  obtain ⟨rfl, rfl⟩ := h
  exact ⟨d, _, rfl, hM, rfl, fun M' h' => by simp [hk, h']⟩
 case buildSlice t n ps =>
  split at hc
  case isFalse => cases hc
  rename_i hn
  subst hn
  unfold q1l at h ⊢
  simp only [if_true] at h ⊢
  split at h
  case h_2 => simp at h
  rename_i e b1 b2 b3 ht
  try simp only [ht]
  split at h
  case h_2 => simp at h
  rename_i ei he
  try simp only [he]
  split at h
  case isFalse => simp at h
  rename_i hok
  try simp only [hok]
  split at h
  case h_2 => simp at h
  rename_i xs hx
  try simp only [hx]
  split at h
  case isFalse => simp at h
  rename_i hall
  split at h
  case h_2 => simp at h
  rename_i d
  split at h
  case h_2 => simp at h
  rename_i hM
  simp at h
  obtain ⟨rfl, rfl⟩ := h
  exact ⟨d, _, rfl, hM, rfl, fun M' h' => by simp [hall, h']⟩
 case makeSlice t l c =>
  unfold q22 at h ⊢
  split at h
  case h_2 => simp at h
  rename_i e b1 b2 b3 k1 n k2 m d ht hl hcv
  split at h
  case h_2 => simp at h
  rename_i ei he hM
  split at h
  case isFalse => simp at h
  rename_i hok
  simp at h
  obtain ⟨rfl, rfl⟩ := h
  exact ⟨d, _, rfl, hM, rfl, fun M' h' => by simp only [ht, hl, hcv, he, h']; rw [if_pos hok]⟩
 case makeMap t r =>
  cases r <;> simp only [reduceCtorEq] at h ⊢
  unfold q4p at h ⊢
  split at h
  case h_2 => simp at h
  rename_i d
  split at h
  case h_2 => simp at h
  rename_i hM
  simp at h
  obtain ⟨rfl, rfl⟩ := h
  exact ⟨d, _, rfl, hM, rfl, fun M' h' => by simp [h']⟩
 case call c =>
  obtain ⟨cl, args, ts⟩ := c
  cases cl <;> try (simp only [reduceCtorEq] at hc; done)
  rename_i b
  cases b <;> simp only [reduceCtorEq] at hc
def AVal.at : AVal → Option Nat
 | .ptr k _ => some k
 | .os k _ => some k
 | .eptr k _ _ _ _ => some k
 | .vw k _ _ _ _ => some k
 | .mp k => some k
 | _ => none
def Agr (M M' : Mem) (x : AVal) : Prop := ∀ k, x.at = some k → M' k = M k
def AVal.atR (op : Op) (x : AVal) : Option Nat :=
 match op with
 | .load _ _ => x.at
 | .lookup _ _ _ _ => x.at
 | _ => match x with
  | .os k _ => some k
  | _ => none
def zer (M M' : Mem) (x : AVal) : Prop := ∀ k e, x = .os k e → M' k = M k
theorem Agr.o {M M' : Mem} {x : AVal} (h : Agr M M' x) : zer M M' x := fun k e hx => h k (by rw [hx]; rfl)
theorem atR_at {op : Op} {x : AVal} {k : Nat} (h : x.atR op = some k) : x.at = some k := by
 unfold AVal.atR at h
 split at h
 ·exact h
 ·exact h
 ·split at h
  ·exact h
  ·cases h
theorem qnr {TE : TyE} {EQ : TypeId → Bool} {M M' : Mem} {t : TypeId} {x k : AVal} {ok : Bool} (ha : Agr M M' x) : q4u TE EQ M' t x k ok = q4u TE EQ M t x k ok := by
 unfold q4u
 cases TE t with
 | none => rfl
 | some i =>
  obtain ⟨td, a, b, c⟩ := i
  cases td <;> cases x <;> first | rfl | simp only [ha _ rfl]
theorem qc2 {TE : TyE} {EQ : TypeId → Bool} {M : Mem} {t : TypeId} {x k v : AVal} {ups : List (Nat × ABlk)} (h : q1h TE EQ M t x k v = some ups) :
 (∀ p ∈ ups, x.at = some p.1) ∧ ∀ M', Agr M M' x → q1h TE EQ M' t x k v = some ups := by
 refine ⟨fun p hp => ?_, fun M' ha => ?_⟩
 ·unfold q1h at h
  split at h
  case h_2 => cases h
  split at h
  case h_2 => cases h
  split at h
  case isFalse => cases h
  split at h
  ·simp only [Option.some.injEq] at h; subst h; simp at hp; subst hp; rfl
  ·simp only [Option.some.injEq] at h; subst h; simp at hp; subst hp; rfl
  ·cases h
 ·rw [← h]
  unfold q1h
  cases TE t with
  | none => rfl
  | some i =>
   obtain ⟨td, a, b, c⟩ := i
   cases td <;> cases x <;> first | rfl | simp only [ha _ rfl]
theorem zcx {TE : TyE} {M M' : Mem} {t : TypeId} {d : Option Tmp} {x v : AVal} (ha : Agr M M' x) (h : qa6 TE M t d x = some (v, [])) : qa6 TE M' t d x = some (v, []) := by
 unfold qa6 at h ⊢
 cases ht : TE t with
 | none => simp [ht] at h
 | some i =>
  simp only [ht] at h ⊢
  cases x <;> simp only at h ⊢ <;> try exact h
  case ptr k off =>
   rw [ha k rfl]
   cases hk : M k with
   | none => simp [hk] at h
   | some b =>
    simp only [hk] at h ⊢
    cases b <;> simp only at h ⊢ <;> try exact h
    split at h
    ·rename_i hg; rw [if_pos hg]; exact h
    ·rename_i hg
     rw [if_neg hg]
     rename_i cs
     cases hc : cs[off]? with
     | none => simp [hc] at h
     | some c =>
      simp only [hc] at h ⊢
      cases c <;> simp only at h ⊢ <;> try exact h
      cases d <;> simp only at h ⊢
      ·exact h
      ·split at h <;> simp at h
  case eptr k e sz i' off =>
   have := ha k rfl
   simp only [this]
   exact h
theorem z0a {M M' : Mem} {x : AVal} (ha : zer M M' x) : z1p M' x = z1p M x := by
 unfold z1p
 cases x <;> first | rfl | (rename_i a b; cases b <;> rfl) | simp only [ha _ _ rfl]
theorem qeh {M M' : Mem} {sz : Nat} {x : AVal} (ha : zer M M' x) : qme M' sz x = qme M sz x := by
 unfold qme
 cases x <;> first | rfl | simp only [ha _ _ rfl]
theorem lenA_agr {TE : TyE} {M M' : Mem} {t : TypeId} {x : AVal} (ha : zer M M' x) : lenA TE M' t x = lenA TE M t x := by
 unfold lenA
 cases TE t with
 | none => rfl
 | some i =>
  cases x <;> cases hd : i.td <;> simp only [hd] <;> first | rfl | simp only [ha _ _ rfl]
theorem qd4 {TE : TyE} {M M' : Mem} {t : TypeId} {x i : AVal} (ha : zer M M' x) : q1o TE M' t x i = q1o TE M t x i := by
 unfold q1o
 cases x <;> first | rfl | simp only [ha _ _ rfl]
theorem z1g {TE : TyE} {M M' : Mem} {t : TypeId} {x : AVal} {lo hi : Option AVal} (ha : zer M M' x) : q5x TE M' t x lo hi = q5x TE M t x lo hi := by
 unfold q5x
 cases x <;> first | rfl | simp only [ha _ _ rfl]
theorem eqvA_agr {TE : TyE} {EQ : TypeId → Bool} {M M' : Mem} {t : TypeId} {x y : AVal} (hx : zer M M' x) (hy : zer M M' y) : qo4 TE EQ M' t x y = qo4 TE EQ M t x y := by
 unfold qo4
 split <;> first | rfl | simp only [z0a hx, z0a hy]
theorem binA_agr {TE : TyE} {EQ : TypeId → Bool} {M M' : Mem} {op : BinOp} {t : TypeId} {x y : AVal} (hx : zer M M' x) (hy : zer M M' y) : z2v TE EQ M' op t x y = z2v TE EQ M op t x y := by
 unfold z2v
 split <;> first | rfl | simp only [eqvA_agr hx hy]
theorem ze8 {TE : TyE} {M M' : Mem} {t u : TypeId} {x : AVal} (ha : zer M M' x) : qg1 TE M' t u x = qg1 TE M t u x := by
 unfold qg1
 split <;> try rfl
 split <;> try rfl
 split <;> try rfl
 split <;> try rfl
 split <;> try rfl
 split <;> first | rfl | simp only [qeh ha]
theorem opA_r {TE : TyE} {EQ : TypeId → Bool} {T : q12} {M M' : Mem} {o : Oper} {v : AVal} (hc : q40 o.op = .r) (ha : ∀ x ∈ o.op.operands, ∀ k, (ev T x).atR o.op = some k → M' k = M k) (h : opA TE EQ ⟨T, M⟩ o = some (v, [])) :
 opA TE EQ ⟨T, M'⟩ o = some (v, []) := by
 obtain ⟨dst, op, type, pos, after, guard⟩ := o
 simp only [opA] at h ⊢
 cases op <;> simp only [q40, reduceCtorEq] at hc <;> simp only [Op.operands] at ha <;> (try simp only at h ⊢)
 case buildSlice => split at hc <;> cases hc
 case load t x => exact zcx (fun k hk => ha x (by simp) k hk) h
 case binOp op t x y u => rw [binA_agr (M := M) (fun k e hx => ha x (by simp) k (by rw [hx]; rfl)) (fun k e hx => ha y (by simp) k (by rw [hx]; rfl))]; exact h
 case convert t u x => rw [ze8 (M := M) (fun k e hx => ha x (by simp) k (by rw [hx]; rfl))]; exact h
 case slice t x lo hi mx =>
  cases mx <;> simp only [reduceCtorEq] at h ⊢
  rw [z1g (M := M) (fun k e hx => ha x (by simp) k (by rw [hx]; rfl))]
  exact h
 case lookup t x k ok => rw [qnr (M := M) (fun k hk => ha x (by simp) k hk)]; exact h
 case indexAddr t x i => rw [qd4 (M := M) (fun k e hx => ha x (by simp) k (by rw [hx]; rfl))]; exact h
 case call c =>
  obtain ⟨cl, args, ts⟩ := c
  cases cl <;> simp only [reduceCtorEq] at hc h ⊢
  rename_i b
  unfold q2o at h ⊢
  cases b <;> simp only [reduceCtorEq] at hc h ⊢
  simp only [Call.operands] at ha
  generalize hL : evs T args.toList = L at h ⊢
  split at h <;> first | (simp at h; done) | (rename_i hq _; cases hq; done) | (rename_i hq; cases hq; done) | skip
  rename_i t x hb hts
  rw [lenA_agr (M := M)]
  ·exact h
  ·have : x ∈ evs T args.toList := by rw [hL]; simp
   obtain ⟨y, hy, rfl⟩ := List.mem_map.1 this
   exact fun k e hx => ha y (by simp; simpa using hy) k (by rw [hx]; rfl)

section
section
variable {P : Program} {TE : TyE} {EQ : TypeId → Bool} {RK : Option (List Nat × (Nat → Bool))}
def CallsA (P : Program) (s : AS) (o : Oper) (K : Nat → Bool) (out : Out) : Prop :=
 ∃ x args ts f caps, o.op = .call ⟨.value x, args, ts⟩ ∧ ev s.T x = .fn f caps ∧ q0i ((evs s.T args.toList ++ caps).map (fz K s.M)) = true ∧ Ev P f ((evs s.T args.toList ++ caps).map (fz K s.M)) out
def q6c : Op → Bool
 | .store _ _ _ => true
 | .load _ _ => true
 | .call ⟨.builtin .append, _, _⟩ => true
 | .mapUpdate _ _ _ _ => true
 | _ => false
def qmg (RK : Option (List Nat × (Nat → Bool))) (dst : Option Tmp) (op : Op) (T : q12) : Bool :=
 match RK with
 | none => true
 | some (ws, K) =>
  match qaa ws dst op with
  | .r => op.operands.toList.all fun x => match (ev T x).atR op with | some k => K k | none => true
  | .w => q6c op && (match dst with | some d => !(K d || q5s d) | none => true) && op.operands.toList.all fun x => match (ev T x).at with | some k => !(K k || q5s k) | none => true
  | .a => match dst with | some d => !q5s d | none => true
  | _ => true
def StD (P : Program) (TE : TyE) (EQ : TypeId → Bool) (RK : Option (List Nat × (Nat → Bool))) (s : AS) (o : Oper) (v : AVal) (M' : Mem) : Prop :=
 (∃ ups, opA TE EQ s o = some (v, ups) ∧ M' = ap s.M ups ∧ (q7q (RK.map (·.1)) o.dst o.op = .r → ups = []) ∧ qmg RK o.dst o.op s.T = true) ∨
 (∃ K, CallsA P s o K (.ret v) ∧ M' = s.M ∧ (v.flt = true ∨ K = fun _ => false) ∧ (RK.isSome = true → K = fun _ => false))
def qa2 (ops : Array Oper) (o : Oper) (T : q12) : Option Bool :=
 match o.guard with
 | none => some true
 | some (j, b) =>
  match (ops[j]?).bind (·.dst) with
  | none => some false
  | some t => match T t with
   | .bool c => some (c == b)
   | .tup _ => some false
   | _ => none
def YA (P : Program) (TE : TyE) (EQ : TypeId → Bool) (RK : Option (List Nat × (Nat → Bool))) (ops : Array Oper) (s : AS) (o : Oper) (v : AVal) (M' : Mem) : Prop :=
 (qa2 ops o s.T = some true ∧ StD P TE EQ RK s o v M') ∨ (qa2 ops o s.T = some false ∧ v = .tup [] ∧ M' = s.M)
theorem q5c {ops : Array Oper} {o : Oper} {n : Nat} {B : Nat → Prop} {G : Gh} {s : AS} {a : Act} {w : World} (h : Rel n B G s a w) {b : Bool} (hw : qa2 ops o s.T = some b) :
 Region.wanted o (yielded ops a.tmps) = b := by
 unfold qa2 at hw
 unfold Region.wanted
 cases hg : o.guard with
 | none => simp [hg] at hw; simpa using hw
 | some jb =>
  obtain ⟨j, want⟩ := jb
  simp only [hg] at hw ⊢
  unfold yielded
  cases ht : (ops[j]?).bind (·.dst) with
  | none => simp only [ht, Option.some.injEq] at hw; subst hw; simp
  | some t =>
   simp only [ht] at hw
   have hv := h.temps t
   cases hT : s.T t <;> simp only [hT, reduceCtorEq, Option.some.injEq] at hw <;> rw [hT] at hv
   case bool c =>
    subst hw
    rw [Array.getD_eq_getD_getElem?] at hv
    cases hx : a.tmps[t]? with
    | none => rw [hx] at hv; simp only [Option.getD_none, undef] at hv; cases hv
    | some u => rw [hx] at hv; simp only [Option.getD_some] at hv; cases hv; simp [hx]
   case tup cs =>
    subst hw
    rw [Array.getD_eq_getD_getElem?] at hv
    cases hx : a.tmps[t]? with
    | none => simp [hx]
    | some u => rw [hx] at hv; simp only [Option.getD_some] at hv; cases hv; simp [hx]
def Looks (ops : Array Oper) (o : Oper) (T T' : q12) : Prop := ∀ t ∈ o.looksAt ops, T t = T' t
theorem Looks.ev {ops : Array Oper} {o : Oper} {T T' : q12} (h : Looks ops o T T') {x : Operand} (hx : x ∈ o.op.operands) : Avm.ev T x = Avm.ev T' x := by
 cases x with
 | tmp t => exact h t (List.mem_append_left _ (List.mem_filterMap.2 ⟨.tmp t, by simpa using hx, rfl⟩))
 | _ => rfl
theorem Looks.want {ops : Array Oper} {o : Oper} {T T' : q12} (h : Looks ops o T T') : qa2 ops o T = qa2 ops o T' := by
 unfold qa2
 cases hg : o.guard with
 | none => rfl
 | some jb =>
  obtain ⟨j, want⟩ := jb
  simp only
  cases ht : (ops[j]?).bind (·.dst) with
  | none => rfl
  | some t =>
   have : T t = T' t := h t (List.mem_append_right _ (by simp [hg, ht]))
   simp only [this]
theorem Looks.symm {ops : Array Oper} {o : Oper} {T T' : q12} (h : Looks ops o T T') : Looks ops o T' T := fun t ht => (h t ht).symm
theorem Looks.put {ops : Array Oper} {o : Oper} {T : q12} {M M' : Mem} {d : Option Tmp} {v : AVal} (h : ∀ e, d = some e → e ∉ o.looksAt ops) : Looks ops o T ((AS.put ⟨T, M⟩ d v).T) := by
 intro t ht
 cases d with
 | none => rfl
 | some e => exact (q0h _ _ fun he => h e rfl (by rw [← he]; exact ht)).symm
theorem Looks.calls {ops : Array Oper} {o : Oper} {T T' : q12} {M : Mem} (h : Looks ops o T T') {K : Nat → Bool} {out : Out} (hc : CallsA P ⟨T, M⟩ o K out) : CallsA P ⟨T', M⟩ o K out := by
 obtain ⟨x, args, ts, f, caps, ho, hf, hs, he⟩ := hc
 have ha : evs T args.toList = evs T' args.toList := q6g fun y hy => h.ev (by rw [ho]; simp [Op.operands, Call.operands]; exact .inr (by simpa using hy))
 have hx : Avm.ev T x = Avm.ev T' x := h.ev (by rw [ho]; simp [Op.operands, Call.operands])
 simp only [ha] at hs he
 exact ⟨x, args, ts, f, caps, ho, hx ▸ hf, hs, he⟩
theorem z1k {dst : Option Tmp} {op : Op} {T T' : q12} (h : ∀ x ∈ op.operands, Avm.ev T x = Avm.ev T' x) : qmg RK dst op T = qmg RK dst op T' := by
 have all_congr : ∀ (l : List Operand) (f g : Operand → Bool), (∀ x ∈ l, f x = g x) → l.all f = l.all g := by
  intro l f g hl
  induction l with
  | nil => rfl
  | cons y l ih => simp only [List.all_cons, hl y (by simp), ih fun x hx => hl x (by simp [hx])]
 unfold qmg
 cases RK with
 | none => rfl
 | some wK =>
  obtain ⟨ws, K⟩ := wK
  simp only
  cases qaa ws dst op <;> simp only
  ·exact all_congr _ _ _ fun x hx => by rw [h x (by simpa using hx)]
  ·rw [all_congr _ _ _ fun x hx => by rw [h x (by simpa using hx)]]
theorem YA.congr {ops : Array Oper} {o : Oper} {T T' : q12} {M M' : Mem} {v : AVal} (h : Looks ops o T T') (hy : YA P TE EQ RK ops ⟨T, M⟩ o v M') : YA P TE EQ RK ops ⟨T', M⟩ o v M' := by
 rcases hy with ⟨hw, hs⟩ | ⟨hw, h1, h2⟩
 ·refine .inl ⟨by rw [← h.want]; exact hw, ?_⟩
  rcases hs with ⟨ups, h1, h2, h3, h4⟩ | ⟨K, h1, h2, h3⟩
  ·exact .inl ⟨ups, by rw [← zcm fun x hx => h.ev hx]; exact h1, h2, h3, by rw [← z1k fun x hx => h.ev hx]; exact h4⟩
  ·exact .inr ⟨K, h.calls h1, h2, h3⟩
 ·exact .inr ⟨by rw [← h.want]; exact hw, h1, h2⟩
def AVal.lv (M : Mem) (x : AVal) : Prop := ∀ k, x.at = some k → M k ≠ none
theorem VR.lv {G : Gh} {B : Nat → Prop} {M : Mem} {w : World} {x : AVal} {v : Value} (h : VR (Dm M) G B w x v) : x.lv M := by
 intro k hk
 cases h <;> simp only [AVal.at, reduceCtorEq, Option.some.injEq] at hk <;> subst hk <;> (intro hn; rename_i hd; first | exact q5w hn ‹_› | skip)
theorem AVal.lv.agr {M : Mem} {x : AVal} (h : x.lv M) {d : Nat} (hd : M d = none) (b : Option ABlk) : Agr M (upd M d b) x := fun k hk =>
 q0h _ _ fun he => h k hk (he ▸ hd)
theorem qfk {M : Mem} {d : Nat} (hd : M d = none) (b : Option ABlk) (K : Nat → Bool) {x : AVal} (h : x.lv M) : fzc K (upd M d b) x = fzc K M x := by
 cases x <;> try rfl
 case os k e => simp only [fzc, h.agr hd b k rfl]
def AVal.lvs (M : Mem) (x : AVal) : Prop :=
 x.lv M ∧ (∀ cs, x = .agg cs → ∀ c ∈ cs, c.lv M) ∧ (∀ f cs, x = .fn f cs → ∀ c ∈ cs, c.lv M)
def MLv (M : Mem) : Prop := ∀ k cs, M k = some (.cells cs) → ∀ c ∈ cs, c.lv M
theorem zeg {M : Mem} (hM : MLv M) {d : Nat} (hd : M d = none) (b : Option ABlk) (K : Nat → Bool) {k : Nat} {cs : List AVal} (hk : M k = some (.cells cs)) :
 cs.map (fzc K (upd M d b)) = cs.map (fzc K M) := List.map_congr_left fun c hc => qfk hd b K (hM k cs hk c hc)
theorem zce {M : Mem} (hM : MLv M) {d : Nat} (hd : M d = none) (b : Option ABlk) (K : Nat → Bool) {k off : Nat} (h : (AVal.ptr k off).lv M) :
 (if K k = true then (match (upd M d b) k with | some (.cells cs) => AVal.sptr ((cs.map (fzc K (upd M d b))).drop off) | _ => .undef) else .undef) =
 (if K k = true then (match M k with | some (.cells cs) => AVal.sptr ((cs.map (fzc K M)).drop off) | _ => .undef) else .undef) := by
 rw [h.agr hd b k rfl]
 split
 ·cases hk : M k with
  | none => rfl
  | some x => cases x <;> try rfl
              simp only [zeg hM hd b K hk]
 ·rfl
theorem zda {M : Mem} (hM : MLv M) {d : Nat} (hd : M d = none) (b : Option ABlk) (K : Nat → Bool) {x : AVal} (h : x.lvs M) : fz K (upd M d b) x = fz K M x := by
 cases x <;> simp only [fz] <;> try exact qfk hd b K h.1
 case ptr k off => exact zce hM hd b K h.1
 case agg cs => rw [List.map_congr_left fun c hc => qfk hd b K (h.2.1 cs rfl c hc)]
 case fn f cs =>
  congr 1
  refine List.map_congr_left fun c hc => ?_
  have hl := h.2.2 f cs rfl c hc
  cases c <;> simp only <;> first | exact zce hM hd b K hl | exact qfk hd b K hl
theorem VR.lvs {G : Gh} {B : Nat → Prop} {M : Mem} {w : World} {x : AVal} {v : Value} (h : VR (Dm M) G B w x v) : x.lvs M := by
 refine ⟨h.lv, fun cs hx c hc => ?_, fun f cs hx c hc => ?_⟩ <;> subst hx
 ·cases h with
  | agg _ vs hl h =>
   obtain ⟨i, hi, rfl⟩ := List.getElem_of_mem hc
   exact (h i cs[i] (vs[i]'(by rw [hl]; exact hi)) (by simp [hi]) (by simp [hl, hi])).lv
 ·cases h with
  | fn _ _ vs hl h =>
   obtain ⟨i, hi, rfl⟩ := List.getElem_of_mem hc
   exact (h i cs[i] (vs[i]'(by rw [hl]; exact hi)) (by simp [hi]) (by simp [hl, hi])).lv
theorem VR.caps_lvs {G : Gh} {B : Nat → Prop} {M : Mem} {w : World} {f : FuncId} {caps : List AVal} {v : Value} (h : VR (Dm M) G B w (.fn f caps) v) : ∀ y ∈ caps, y.lvs M := by
 intro y hy
 cases h with
 | fn _ _ vs hl h =>
  obtain ⟨i, hi, rfl⟩ := List.getElem_of_mem hy
  exact (h i caps[i] (vs[i]'(by rw [hl]; exact hi)) (by simp [hi]) (by simp [hl, hi])).lvs
theorem Rel.mlv {n : Nat} {B : Nat → Prop} {G : Gh} {s : AS} {a : Act} {w : World} (h : Rel n B G s a w) : MLv s.M := by
 intro k cs hk c hc
 obtain ⟨i, hi, rfl⟩ := List.getElem_of_mem hc
 obtain ⟨_, _, _, _, _, _, h5⟩ := h.mem k _ hk
 obtain ⟨u, _, hr⟩ := h5 i cs[i] (by simp [hi])
 generalize cs[i] = x at hr
 intro j hj
 cases x <;> simp only [AVal.at, reduceCtorEq] at hj <;> exact VR.lv hr j hj
def Inh (n : Nat) (s : AS) : Prop := ∃ B G a w, Rel n B G s a w
theorem Inh.lvs {n : Nat} {s : AS} (h : Inh n s) (x : Operand) : (ev s.T x).lvs s.M := let ⟨_, _, _, _, h⟩ := h; (h.ev x).lvs
theorem Inh.mlv {n : Nat} {s : AS} (h : Inh n s) : MLv s.M := let ⟨_, _, _, _, h⟩ := h; h.mlv
theorem YA.frame {ops : Array Oper} {n : Nat} {T : q12} {M : Mem} {o : Oper} {v : AVal} {M' : Mem} (hi : Inh n ⟨T, M⟩) (hc : q7q (RK.map (·.1)) o.dst o.op = .r) {d : Nat} (hd : M d = none) (b : Option ABlk)
 (h : YA P TE EQ RK ops ⟨T, M⟩ o v M') : M' = M ∧ YA P TE EQ RK ops ⟨T, upd M d b⟩ o v (upd M d b) := by
 rcases h with ⟨hw, hs⟩ | ⟨hw, h1, h2⟩
 ·rcases hs with ⟨ups, h1, h2, h3, h4⟩ | ⟨K, ⟨x, args, ts, f, caps, ho, hf, hst, he⟩, h2, h3⟩
  ·have := h3 hc
   subst this
   exact ⟨h2, .inl ⟨hw, .inl ⟨[], opA_r (q15 hc (by simp)) (fun x _ k hk => (hi.lvs x).1.agr hd b k (atR_at hk)) h1, rfl, fun _ => rfl, h4⟩⟩⟩
  ·refine ⟨h2, .inl ⟨hw, .inr ⟨K, ⟨x, args, ts, f, caps, ho, hf, ?_⟩, rfl, h3⟩⟩⟩
   have hl : (evs T args.toList ++ caps).map (fz K (upd M d b)) = (evs T args.toList ++ caps).map (fz K M) := by
    refine List.map_congr_left fun y hy => zda hi.mlv hd b K ?_
    rcases List.mem_append.1 hy with hy | hy
    ·obtain ⟨z, _, rfl⟩ := List.mem_map.1 hy
     exact hi.lvs z
    ·have := (hi.lvs x).2.2 f caps hf y hy
     obtain ⟨_, _, _, _, hr⟩ := hi
     have hv := hr.ev x
     simp only at hf
     rw [hf] at hv
     exact VR.caps_lvs hv y hy
   simp only at hst he ⊢
   rw [hl]
   exact ⟨hst, he⟩
 ·exact ⟨h2, .inr ⟨hw, h1, rfl⟩⟩
theorem YA.unframe {ops : Array Oper} {n : Nat} {T : q12} {M : Mem} {o : Oper} {v : AVal} {M' : Mem} (hi : Inh n ⟨T, M⟩) (hc : q7q (RK.map (·.1)) o.dst o.op = .r) {d : Nat} (hd : M d = none) (b : Option ABlk)
 (h : YA P TE EQ RK ops ⟨T, upd M d b⟩ o v M') : M' = upd M d b ∧ YA P TE EQ RK ops ⟨T, M⟩ o v M := by
 have hback : ∀ x : AVal, x.lv M → Agr (upd M d b) M x := fun x hx k hk => (hx.agr hd b k hk).symm
 rcases h with ⟨hw, hs⟩ | ⟨hw, h1, h2⟩
 ·rcases hs with ⟨ups, h1, h2, h3, h4⟩ | ⟨K, ⟨x, args, ts, f, caps, ho, hf, hst, he⟩, h2, h3⟩
  ·have := h3 hc
   subst this
   exact ⟨h2, .inl ⟨hw, .inl ⟨[], opA_r (q15 hc (by simp)) (fun x _ k hk => hback _ (hi.lvs x).1 k (atR_at hk)) h1, rfl, fun _ => rfl, h4⟩⟩⟩
  ·refine ⟨h2, .inl ⟨hw, .inr ⟨K, ⟨x, args, ts, f, caps, ho, hf, ?_⟩, rfl, h3⟩⟩⟩
   have hl : (evs T args.toList ++ caps).map (fz K (upd M d b)) = (evs T args.toList ++ caps).map (fz K M) := by
    refine List.map_congr_left fun y hy => zda hi.mlv hd b K ?_
    rcases List.mem_append.1 hy with hy | hy
    ·obtain ⟨z, _, rfl⟩ := List.mem_map.1 hy
     exact hi.lvs z
    ·obtain ⟨_, _, _, _, hr⟩ := hi
     have hv := hr.ev x
     simp only at hf
     rw [hf] at hv
     exact VR.caps_lvs hv y hy
   simp only at hst he ⊢
   rw [hl] at hst he
   exact ⟨hst, he⟩
 ·exact ⟨h2, .inr ⟨hw, h1, rfl⟩⟩
theorem YA.quiet {ops : Array Oper} {T : q12} {M : Mem} {o : Oper} {v : AVal} {M' : Mem} (hc : q40 o.op = .q) (h : YA P TE EQ RK ops ⟨T, M⟩ o v M') : M' = M ∧ ∀ M1, YA P TE EQ RK ops ⟨T, M1⟩ o v M1 := by
 rcases h with ⟨hw, hs⟩ | ⟨hw, h1, h2⟩
 ·rcases hs with ⟨ups, h1, h2, h3, h4⟩ | ⟨K, ⟨x, args, ts, f, caps, ho, hf, hst, he⟩, h2, h3⟩
  ·obtain ⟨rfl, hq⟩ := opA_q hc h1
   exact ⟨h2, fun M1 => .inl ⟨hw, .inl ⟨[], hq M1, rfl, fun _ => rfl, h4⟩⟩⟩
  ·rw [ho] at hc; simp [q40] at hc
 ·exact ⟨h2, fun M1 => .inr ⟨hw, h1, rfl⟩⟩
theorem YA.reads {ops : Array Oper} {T : q12} {M : Mem} {o : Oper} {v : AVal} {M' : Mem} (hc : q7q (RK.map (·.1)) o.dst o.op = .r) (h : YA P TE EQ RK ops ⟨T, M⟩ o v M') : M' = M := by
 rcases h with ⟨hw, hs⟩ | ⟨hw, h1, h2⟩
 ·rcases hs with ⟨ups, h1, h2, h3, h4⟩ | ⟨K, _, h2, h3⟩
  ·have := h3 hc; subst this; exact h2
  ·exact h2
 ·exact h2
theorem YA.makes {ops : Array Oper} {T : q12} {M : Mem} {o : Oper} {v : AVal} {M' : Mem} (hc : q40 o.op = .a) (h : YA P TE EQ RK ops ⟨T, M⟩ o v M') :
 (M' = M ∧ ∀ M1, YA P TE EQ RK ops ⟨T, M1⟩ o v M1) ∨
 ∃ d blk, o.dst = some d ∧ M d = none ∧ M' = upd M d (some blk) ∧ ∀ M1 : Mem, M1 d = none → YA P TE EQ RK ops ⟨T, M1⟩ o v (upd M1 d (some blk)) := by
 rcases h with ⟨hw, hs⟩ | ⟨hw, h1, h2⟩
 ·rcases hs with ⟨ups, h1, h2, h3, h4⟩ | ⟨K, ⟨x, args, ts, f, caps, ho, hf, hst, he⟩, h2, h3⟩
  ·obtain ⟨d, blk, e1, e2, rfl, e4⟩ := opA_a hc h1
   exact .inr ⟨d, blk, e1, e2, h2, fun M1 hM => .inl ⟨hw, .inl ⟨_, e4 M1 hM, rfl, fun hr => (by rw [q15 hr (by simp)] at hc; cases hc), h4⟩⟩⟩
  ·rw [ho] at hc; simp [q40] at hc
 ·exact .inl ⟨h2, fun M1 => .inr ⟨hw, h1, rfl⟩⟩
theorem qaw {M : Mem} {k : Nat} : ∀ {ups : List (Nat × ABlk)}, (∀ p ∈ ups, p.1 ≠ k) → ap M ups k = M k
 | [], _ => rfl
 | (j, b) :: r, h => by
  rw [ap, qaw (fun p hp => h p (by simp [hp])), q0h _ _ (fun e => h (j, b) (by simp) e.symm)]
theorem qmr {M : Mem} {t : TypeId} {x v : AVal} {ups : List (Nat × ABlk)} (h : q66 TE M t x v = some ups) : (∀ p ∈ ups, x.at = some p.1 ∨ v.at = some p.1) ∧ ∀ M', Agr M M' x → Agr M M' v → q66 TE M' t x v = some ups := by
 unfold q66 at h ⊢
 cases ht : TE t with
 | none => simp [ht] at h
 | some i =>
  simp only [ht] at h ⊢
  split at h
  case isFalse => cases h
  rename_i hg
  cases x <;> simp only [reduceCtorEq] at h
  case ptr k off =>
   cases hm : M k with
   | none => simp [hm] at h
   | some blk =>
    cases blk <;> simp only [hm, reduceCtorEq] at h
    rename_i cs
    split at h
    case isFalse => cases h
    rename_i hle
    split at h
    ·rename_i k' e hc
     cases hm' : M k' with
     | none => simp [hm'] at h
     | some blk' =>
      cases blk' <;> simp only [hm', reduceCtorEq] at h
      split at h
      case isFalse => cases h
      rename_i he
      simp only [Option.some.injEq] at h
      subst h
      refine ⟨fun p hp => ?_, fun M' h1 h2 => ?_⟩
      ·simp only [List.mem_cons, List.not_mem_nil, or_false] at hp
       rcases hp with rfl | rfl
       ·exact .inl rfl
       ·exact .inr rfl
      ·simp only [h1 k rfl, h2 k' rfl, hm, hm', if_pos hg, if_pos hle, hc, if_pos he]
    ·rename_i hno
     simp only [Option.some.injEq] at h
     subst h
     refine ⟨fun p hp => ?_, fun M' h1 h2 => ?_⟩
     ·simp only [List.mem_cons, List.not_mem_nil, or_false] at hp
      subst hp
      exact .inl rfl
     ·simp only [h1 k rfl, hm, if_pos hg, if_pos hle]
  case eptr k e sz j off =>
   cases hm : M k with
   | none => simp [hm] at h
   | some blk =>
    cases blk <;> simp only [hm, reduceCtorEq] at h
    split at h
    case isFalse => cases h
    rename_i he
    split at h
    case h_2 => cases h
    rename_i y hy
    split at h
    case isFalse => cases h
    rename_i hle
    simp only [Option.some.injEq] at h
    subst h
    refine ⟨fun p hp => ?_, fun M' h1 h2 => ?_⟩
    ·simp only [List.mem_cons, List.not_mem_nil, or_false] at hp
     subst hp
     exact .inl rfl
    ·simp only [h1 k rfl, hm, if_pos hg, if_pos he, hy, if_pos hle]
theorem z1r {M : Mem} {t : TypeId} {d : Option Tmp} {x v : AVal} {ups : List (Nat × ABlk)} (h : qa6 TE M t d x = some (v, ups)) :
 (∀ p ∈ ups, x.at = some p.1 ∨ d = some p.1) ∧ ∀ M', Agr M M' x → (∀ e, d = some e → M' e = M e) → qa6 TE M' t d x = some (v, ups) := by
 unfold qa6 at h ⊢
 cases ht : TE t with
 | none => simp [ht] at h
 | some i =>
  simp only [ht] at h ⊢
  cases x <;> simp only [reduceCtorEq] at h
  case ptr k off =>
   cases hm : M k with
   | none => simp [hm] at h
   | some blk =>
    cases blk <;> simp only [hm, reduceCtorEq] at h
    rename_i cs
    split at h
    ·rename_i hg
     split at h
     case isFalse => cases h
     rename_i hg2
     simp only [Option.some.injEq, Prod.mk.injEq] at h
     obtain ⟨rfl, rfl⟩ := h
     exact ⟨fun p hp => (by cases hp), fun M' h1 _ => by simp only [h1 k rfl, hm, if_pos hg, if_pos hg2]⟩
    ·rename_i hg
     cases hc : cs[off]? with
     | none => simp [hc] at h
     | some c =>
      simp only [hc] at h
      cases c <;> simp only [reduceCtorEq, Option.some.injEq, Prod.mk.injEq] at h
      case own sz xs =>
       cases d with
       | none => simp at h
       | some e =>
        cases hd : M e with
        | some q => simp [hd] at h
        | none =>
         simp only [hd, Option.some.injEq, Prod.mk.injEq] at h
         obtain ⟨rfl, rfl⟩ := h
         refine ⟨fun p hp => ?_, fun M' h1 h2 => by simp only [h1 k rfl, h2 e rfl, hm, if_neg hg, hc, hd]⟩
         simp only [List.mem_cons, List.not_mem_nil, or_false] at hp
         rcases hp with rfl | rfl
         ·exact .inl rfl
         ·exact .inr rfl
      all_goals
       obtain ⟨rfl, rfl⟩ := h
       exact ⟨fun p hp => (by cases hp), fun M' h1 _ => by simp only [h1 k rfl, hm, if_neg hg, hc]⟩
  case eptr k e sz j off =>
   refine ⟨?_, fun M' h1 _ => by simp only [h1 k rfl]; exact h⟩
   cases hm : M k with
   | none => simp [hm] at h
   | some blk =>
    cases blk <;> simp only [hm, reduceCtorEq] at h
    split at h
    case isFalse => cases h
    split at h
    case h_2 => cases h
    have := q5i h
    subst this
    intro p hp
    cases hp
  case sptr cs =>
   have := q5i h
   subst this
   exact ⟨fun p hp => (by cases hp), fun M' _ _ => h⟩
theorem qma {M : Mem} {t1 t2 : TypeId} {d : Option Tmp} {x y v : AVal} {ups : List (Nat × ABlk)} (h : q5u TE M t1 t2 x y d = some (v, ups)) :
 (∀ p ∈ ups, x.at = some p.1 ∨ d = some p.1) ∧ ∀ M', Agr M M' x → Agr M M' y → (∀ e, d = some e → M' e = M e) → q5u TE M' t1 t2 x y d = some (v, ups) := by
 unfold q5u at h ⊢
 split at h
 case h_2 => cases h
 rename_i e s1 b1 z1 i2 h1 h2
 try simp only [h1, h2]
 split at h
 ·cases h
 rename_i ei he
 try simp only [he]
 split at h
 case isFalse => cases h
 rename_i hg
 try simp only [if_pos hg]
 cases hs : qme M ei.size y with
 | none => simp [hs] at h
 | some ys =>
  simp only [hs] at h
  cases x <;> simp only [reduceCtorEq] at h
  case nil =>
   cases d with
   | none => simp at h
   | some d =>
    simp only at h
    cases hd : M d with
    | some q => simp [hd] at h
    | none =>
     simp only [hd] at h
     split at h
     case isFalse => cases h
     rename_i hb
     simp only [Option.some.injEq, Prod.mk.injEq] at h
     obtain ⟨rfl, rfl⟩ := h
     refine ⟨fun p hp => ?_, fun M' _ h4 h5 => by simp only [qeh h4.o, hs, h5 d rfl, hd, if_pos hb]⟩
     simp only [List.mem_cons, List.not_mem_nil, or_false] at hp
     subst hp
     exact .inr rfl
  case os k e' =>
   cases hm : M k with
   | none => simp [hm] at h
   | some blk =>
    cases blk <;> simp only [hm, reduceCtorEq] at h
    split at h
    case isFalse => cases h
    rename_i hb
    simp only [Option.some.injEq, Prod.mk.injEq] at h
    obtain ⟨rfl, rfl⟩ := h
    refine ⟨fun p hp => ?_, fun M' h3 h4 _ => by simp only [qeh h4.o, hs, h3 k rfl, hm, if_pos hb]⟩
    simp only [List.mem_cons, List.not_mem_nil, or_false] at hp
    subst hp
    exact .inl rfl
theorem qkr {T : q12} {M : Mem} {o : Oper} {v : AVal} {ups : List (Nat × ABlk)} {ws : List Nat} {K0 : Nat → Bool} (hc : qaa ws o.dst o.op = .w) (hr : qmg (some (ws, K0)) o.dst o.op T = true) (h : opA TE EQ ⟨T, M⟩ o = some (v, ups)) :
 (∀ p ∈ ups, (K0 p.1 || q5s p.1) = false) ∧ ∀ M', (∀ k, (K0 k || q5s k) = false → M' k = M k) → opA TE EQ ⟨T, M'⟩ o = some (v, ups) := by
 simp only [qmg, hc, Bool.and_eq_true] at hr
 obtain ⟨K, hK⟩ : ∃ K : Nat → Bool, ∀ k, (K0 k || q5s k) = K k := ⟨fun k => K0 k || q5s k, fun _ => rfl⟩
 simp only [hK] at hr ⊢
 clear hK
 obtain ⟨⟨h1, hd⟩, h2⟩ := hr
 obtain ⟨dst, op, type, pos, after, guard⟩ := o
 have hdk : ∀ e, dst = some e → K e = false := fun e he => by subst he; simpa using hd
 cases op <;> simp only [q6c, Bool.false_eq_true] at h1
 case store t a x =>
  simp only [opA] at h ⊢
  cases hs : q66 TE M t (ev T a) (ev T x) with
  | none => simp [hs] at h
  | some u =>
   simp only [hs, Option.map_some, Option.some.injEq, Prod.mk.injEq] at h
   obtain ⟨rfl, rfl⟩ := h
   obtain ⟨k1, k2⟩ := qmr hs
   simp only [Op.operands, List.all_cons, List.all_nil, Bool.and_true, Bool.and_eq_true] at h2
   have ka : ∀ k, (ev T a).at = some k → K k = false := fun k hk => by have := h2.1; rw [hk] at this; simpa using this
   have kx : ∀ k, (ev T x).at = some k → K k = false := fun k hk => by have := h2.2; rw [hk] at this; simpa using this
   refine ⟨fun p hp => ?_, fun M' hM => ?_⟩
   ·rcases k1 p hp with h | h
    ·exact ka _ h
    ·exact kx _ h
   ·rw [k2 M' (fun k hk => hM k (ka k hk)) (fun k hk => hM k (kx k hk))]
    rfl
 case load t a =>
  simp only [opA] at h ⊢
  obtain ⟨k1, k2⟩ := z1r h
  simp only [Op.operands, List.all_cons, List.all_nil, Bool.and_true] at h2
  have ka : ∀ k, (ev T a).at = some k → K k = false := fun k hk => by have := h2; rw [hk] at this; simpa using this
  exact ⟨fun p hp => (k1 p hp).elim (ka _) (hdk _), fun M' hM => k2 M' (fun k hk => hM k (ka k hk)) (fun e he => hM e (hdk e he))⟩
 case mapUpdate t a x y =>
  simp only [opA] at h ⊢
  cases hs : q1h TE EQ M t (ev T a) (ev T x) (ev T y) with
  | none => simp [hs] at h
  | some u =>
   simp only [hs, Option.map_some, Option.some.injEq, Prod.mk.injEq] at h
   obtain ⟨rfl, rfl⟩ := h
   obtain ⟨k1, k2⟩ := qc2 hs
   simp only [Op.operands, List.all_cons, List.all_nil, Bool.and_true, Bool.and_eq_true] at h2
   have ka : ∀ k, (ev T a).at = some k → K k = false := fun k hk => by have := h2.1; rw [hk] at this; simpa using this
   refine ⟨fun p hp => ka _ (k1 p hp), fun M' hM => ?_⟩
   rw [k2 M' (fun k hk => hM k (ka k hk))]
   rfl
 case call c =>
  obtain ⟨cl, args, ts⟩ := c
  cases cl <;> try (simp only [Bool.false_eq_true] at h1; done)
  rename_i b
  cases b <;> try (simp only [Bool.false_eq_true] at h1; done)
  simp only [opA, q2o] at h ⊢
  have hk2 : ∀ y ∈ evs T args.toList, ∀ k, y.at = some k → K k = false := by
   intro y hy k hk
   obtain ⟨z, hz, rfl⟩ := List.mem_map.1 hy
   have := List.all_eq_true.1 h2 z (by simpa [Op.operands, Call.operands] using hz)
   rw [hk] at this
   simpa using this
  generalize evs T args.toList = L at h hk2 ⊢
  split at h <;> first | (cases h; done) | skip
  all_goals first | (rename_i hq _ _; cases hq; done) | (rename_i hq _; cases hq; done) | (rename_i hq; cases hq; done) | skip
  rename_i t1 t2 x y _ hts
  obtain ⟨k1, k2⟩ := qma h
  have kx := hk2 x (by simp)
  have ky := hk2 y (by simp)
  exact ⟨fun p hp => (k1 p hp).elim (kx _) (hdk _), fun M' hM => k2 M' (fun k hk => hM k (kx k hk)) (fun k hk => hM k (ky k hk)) (fun e he => hM e (hdk e he))⟩
theorem z0i (M M' : Mem) (x : AVal) : fz (fun _ => false) M' x = fz (fun _ => false) M x := by
 have h1 : ∀ y : AVal, fzc (fun _ => false) M' y = fzc (fun _ => false) M y := fun y => by cases y <;> rfl
 have h2 : fzc (fun _ => false) M' = fzc (fun _ => false) M := funext h1
 cases x <;> simp only [fz, h1, h2, Bool.false_eq_true, if_false]
theorem YA.rkeep {ops : Array Oper} {T : q12} {M M1 : Mem} {o : Oper} {v : AVal} {M' : Mem} {ws : List Nat} {K : Nat → Bool} (hc : qaa ws o.dst o.op = .r) (hM : ∀ k, K k = true → M1 k = M k) (h : YA P TE EQ (some (ws, K)) ops ⟨T, M⟩ o v M') :
 YA P TE EQ (some (ws, K)) ops ⟨T, M1⟩ o v M1 := by
 rcases h with ⟨hw, hs⟩ | ⟨hw, h1, h2⟩
 ·rcases hs with ⟨ups, h1, h2, h3, h4⟩ | ⟨Kf, ⟨x, args, ts, f, caps, ho, hf, hst, he⟩, h2, h3, h4⟩
  ·have := h3 hc
   subst this
   have hr := h4
   simp only [qmg, hc, List.all_eq_true] at hr
   refine .inl ⟨hw, .inl ⟨[], opA_r (q15 (ws := some ws) hc (by simp)) (fun x hx k hk => hM k ?_) h1, rfl, fun _ => rfl, h4⟩⟩
   have := hr x (by simpa using hx)
   rw [hk] at this
   exact this
  ·have := h4 rfl
   subst this
   have hl : (evs T args.toList ++ caps).map (fz (fun _ => false) M1) = (evs T args.toList ++ caps).map (fz (fun _ => false) M) := List.map_congr_left fun y _ => z0i _ _ _
   exact .inl ⟨hw, .inr ⟨_, ⟨x, args, ts, f, caps, ho, hf, by rw [hl]; exact hst, by rw [hl]; exact he⟩, rfl, h3, h4⟩⟩
 ·exact .inr ⟨hw, h1, rfl⟩
theorem YA.wkeep {ops : Array Oper} {T : q12} {M : Mem} {o : Oper} {v : AVal} {M' : Mem} {ws : List Nat} {K : Nat → Bool} (hc : qaa ws o.dst o.op = .w) (h : YA P TE EQ (some (ws, K)) ops ⟨T, M⟩ o v M') :
 ∀ k, K k = true → M' k = M k := by
 rcases h with ⟨hw, hs⟩ | ⟨hw, h1, rfl⟩
 ·rcases hs with ⟨ups, h1, rfl, h3, h4⟩ | ⟨Kf, _, rfl, _⟩
  ·obtain ⟨k1, _⟩ := qkr hc h4 h1
   intro k hk
   exact qaw fun p hp e => by have := k1 p hp; rw [e, hk] at this; cases this
  ·exact fun _ _ => rfl
 ·exact fun _ _ => rfl
def q7b (A C : Mem) : Mem := fun k => if q5s k = true then A k else C k
theorem ap_congr {M M' : Mem} {k : Nat} (h : M' k = M k) : ∀ (ups : List (Nat × ABlk)), ap M' ups k = ap M ups k := by
 intro ups
 induction ups generalizing M M' with
 | nil => exact h
 | cons p r ih =>
  obtain ⟨j, b⟩ := p
  refine ih ?_
  by_cases hk : k = j
  ·subst hk; rw [q00, q00]
  ·rw [q0h _ _ hk, q0h _ _ hk, h]
theorem YA.wmove {ops : Array Oper} {T : q12} {M M1 : Mem} {o : Oper} {v : AVal} {M' : Mem} {ws : List Nat} {K : Nat → Bool} (hc : qaa ws o.dst o.op = .w) (hM : ∀ k, q5s k = false → M1 k = M k) (h : YA P TE EQ (some (ws, K)) ops ⟨T, M⟩ o v M') :
 (∀ k, q5s k = true → M' k = M k) ∧ YA P TE EQ (some (ws, K)) ops ⟨T, M1⟩ o v (q7b M1 M') := by
 have hmix : q7b M1 M = M1 := by
  funext k
  unfold q7b
  cases hb : q5s k <;> simp
  exact (hM k hb).symm
 rcases h with ⟨hw, hs⟩ | ⟨hw, h1, rfl⟩
 ·rcases hs with ⟨ups, h1, rfl, h3, h4⟩ | ⟨Kf, ⟨x, args, ts, f, caps, ho, _⟩, rfl, _⟩
  ·obtain ⟨k1, k2⟩ := qkr hc h4 h1
   have hbig : ∀ k, q5s k = true → ∀ p ∈ ups, p.1 ≠ k := fun k hk p hp e => by have := k1 p hp; rw [e, hk] at this; simp at this
   refine ⟨fun k hk => qaw (hbig k hk), .inl ⟨hw, .inl ⟨ups, k2 M1 (fun k hk => hM k (by simp only [Bool.or_eq_false_iff] at hk; exact hk.2)), ?_, h3, h4⟩⟩⟩
   funext k
   unfold q7b
   cases hb : q5s k with
   | true => rw [if_pos rfl, qaw (hbig k hb)]
   | false => rw [if_neg (by simp), ap_congr (hM k hb)]
  ·rw [ho] at hc
   unfold qaa at hc
   cases hd : o.dst <;> simp only [hd, q40] at hc
   ·cases hc
   ·split at hc <;> cases hc
 ·exact ⟨fun _ _ => rfl, .inr ⟨hw, h1, hmix⟩⟩
theorem YA.still {ops : Array Oper} {T : q12} {M0 : Mem} {o : Oper} {v : AVal} {M' : Mem} {ws : List Nat} {K : Nat → Bool} (hc : qaa ws o.dst o.op = .m) (h : YA P TE EQ (some (ws, K)) ops ⟨T, M0⟩ o v M') :
 M' = M0 ∧ ∀ M1, YA P TE EQ (some (ws, K)) ops ⟨T, M1⟩ o v M1 := by
 have hcall : ∃ x args ts, o.op = .call ⟨.value x, args, ts⟩ := by
  unfold qaa at hc
  split at hc
  ·split at hc <;> cases hc
  ·rename_i x args ts t ho _; exact ⟨x, args, ts, ho⟩
  ·exact absurd hc (opCls_m _)
 rcases h with ⟨hw, hs⟩ | ⟨hw, h1, rfl⟩
 ·rcases hs with ⟨ups, h1, h2, h3, h4⟩ | ⟨Kf, ⟨x, args, ts, f, caps, ho, hf, hst, he⟩, h2, h3, h4⟩
  ·obtain ⟨x, args, ts, ho⟩ := hcall
   simp only [opA, ho, reduceCtorEq] at h1
  ·have := h4 rfl
   subst this
   refine ⟨h2, fun M1 => ?_⟩
   have hl : (evs T args.toList ++ caps).map (fz (fun _ => false) M1) = (evs T args.toList ++ caps).map (fz (fun _ => false) M0) := List.map_congr_left fun y _ => z0i _ _ _
   exact .inl ⟨hw, .inr ⟨_, ⟨x, args, ts, f, caps, ho, hf, by rw [hl]; exact hst, by rw [hl]; exact he⟩, rfl, h3, h4⟩⟩
 ·exact ⟨rfl, fun M1 => .inr ⟨hw, h1, rfl⟩⟩
theorem YA.amove {ops : Array Oper} {T : q12} {M : Mem} {o : Oper} {v : AVal} {M' : Mem} {ws : List Nat} {K : Nat → Bool} (hc : qaa ws o.dst o.op = .a) (h : YA P TE EQ (some (ws, K)) ops ⟨T, M⟩ o v M') {M1 : Mem} (hM : ∀ k, q5s k = false → M1 k = M k) :
 (∀ k, q5s k = true → M' k = M k) ∧ YA P TE EQ (some (ws, K)) ops ⟨T, M1⟩ o v (q7b M1 M') := by
 have hmix : q7b M1 M = M1 := by
  funext k
  unfold q7b
  cases hb : q5s k <;> simp
  exact (hM k hb).symm
 rcases h with ⟨hw, hs⟩ | ⟨hw, h1, rfl⟩
 ·rcases hs with ⟨ups, h1, rfl, h3, h4⟩ | ⟨Kf, ⟨x, args, ts, f, caps, ho, hf, hst, he⟩, h2, h3⟩
  ·have hco : q40 o.op = .a := q15 (ws := some ws) hc (by simp)
   obtain ⟨d, blk, e1, e2, rfl, e4⟩ := opA_a hco h1
   have hd : q5s d = false := by
    have := h4
    simp only [qmg, hc] at this
    rw [e1] at this
    simpa using this
   refine ⟨fun k hk => ?_, .inl ⟨hw, .inl ⟨_, e4 M1 (by rw [hM d hd]; exact e2), ?_, fun hr => (by rw [q15 hr (by simp)] at hco; cases hco), h4⟩⟩⟩
   ·exact q0h _ _ (fun e => by rw [e, hd] at hk; cases hk)
   ·funext k
    show q7b M1 (upd M d (some blk)) k = upd M1 d (some blk) k
    unfold q7b
    cases hb : q5s k with
    | true => rw [if_pos rfl, q0h _ _ (fun e => by rw [e, hd] at hb; cases hb)]
    | false =>
     rw [if_neg (by simp)]
     by_cases hk : k = d
     ·subst hk; rw [q00, q00]
     ·rw [q0h _ _ hk, q0h _ _ hk, hM k hb]
  ·rw [ho] at hc
   unfold qaa at hc
   cases hd : o.dst <;> simp only [hd, q40] at hc
   ·cases hc
   ·split at hc <;> cases hc
 ·exact ⟨fun _ _ => rfl, .inr ⟨hw, h1, hmix⟩⟩
end
end
section
section
variable {P : Program} {TE : TyE} {EQ : TypeId → Bool} {RK : Option (List Nat × (Nat → Bool))}
theorem AS.put_eq (T : q12) (M M' : Mem) (d : Option Tmp) (v : AVal) : AS.put ⟨T, M⟩ d v = ⟨(AS.put ⟨T, M'⟩ d v).T, M⟩ := by cases d <;> rfl
theorem AS.put_comm (T : q12) (M M1 M2 : Mem) {d e : Option Tmp} (v u : AVal) (h : ∀ x, d = some x → e ≠ some x) :
 AS.put ⟨(AS.put ⟨T, M1⟩ d v).T, M⟩ e u = AS.put ⟨(AS.put ⟨T, M2⟩ e u).T, M⟩ d v := by
 cases d with
 | none => cases e <;> rfl
 | some d =>
  cases e with
  | none => rfl
  | some e =>
   have hne : d ≠ e := fun he => h d rfl (he ▸ rfl)
   simp only [AS.put]
   rw [q7w T v u (Ne.symm hne)]
def q8d (rw : Bool) : Cls → Cls → Bool
 | .q, _ => true
 | _, .q => true
 | .r, .w => rw
 | .w, .r => rw
 | .r, .r => true
 | .a, .r => true
 | .r, .a => true
 | .a, .a => true
 | .m, .r => rw
 | .r, .m => rw
 | .m, .w => rw
 | .w, .m => rw
 | .m, .a => rw
 | .a, .m => rw
 | _, _ => false
def qba (rw : Option (List Nat)) (ops : Array Oper) (x y : Oper) : Bool := x.apart ops y && q8d rw.isSome (q7q rw x.dst x.op) (q7q rw y.dst y.op)
theorem YA.swap {ops : Array Oper} {oi oj : Oper} (hap : qba (RK.map (·.1)) ops oi oj = true) {n : Nat} {T : q12} {M Mi Mij : Mem} {vi vj : AVal} (hi : Inh n ⟨T, M⟩)
 (h1 : YA P TE EQ RK ops ⟨T, M⟩ oi vi Mi) (h2 : YA P TE EQ RK ops (AS.put ⟨T, Mi⟩ oi.dst vi) oj vj Mij) :
 ∃ Mj, YA P TE EQ RK ops ⟨T, M⟩ oj vj Mj ∧ YA P TE EQ RK ops (AS.put ⟨T, Mj⟩ oj.dst vj) oi vi Mij := by
 simp only [qba, Bool.and_eq_true] at hap
 obtain ⟨hap, hok⟩ := hap
 obtain ⟨a1, a2, a3⟩ := Oper.apart_spec hap
 have e2 : YA P TE EQ RK ops ⟨T, Mi⟩ oj vj Mij := by
  rw [AS.put_eq T Mi NoM] at h2
  exact YA.congr (Looks.put (M' := NoM) a1).symm h2
 have back : ∀ Mj, YA P TE EQ RK ops ⟨T, Mj⟩ oi vi Mij → YA P TE EQ RK ops (AS.put ⟨T, Mj⟩ oj.dst vj) oi vi Mij := fun Mj h => by
  rw [AS.put_eq T Mj NoM]
  exact YA.congr (Looks.put (M := NoM) (M' := NoM) a3) h
 cases ci : q7q (RK.map (·.1)) oi.dst oi.op <;> cases cj : q7q (RK.map (·.1)) oj.dst oj.op <;> simp only [ci, cj, q8d, Bool.false_eq_true] at hok
 case q.q => obtain ⟨rfl, q1⟩ := h1.quiet (q15 ci (by simp)); exact ⟨Mij, e2, back _ (q1 _)⟩
 case q.r => obtain ⟨rfl, q1⟩ := h1.quiet (q15 ci (by simp)); exact ⟨Mij, e2, back _ (q1 _)⟩
 case q.a => obtain ⟨rfl, q1⟩ := h1.quiet (q15 ci (by simp)); exact ⟨Mij, e2, back _ (q1 _)⟩
 case q.w => obtain ⟨rfl, q1⟩ := h1.quiet (q15 ci (by simp)); exact ⟨Mij, e2, back _ (q1 _)⟩
 case r.q => obtain ⟨rfl, q1⟩ := e2.quiet (q15 cj (by simp)); exact ⟨M, q1 _, back _ h1⟩
 case a.q => obtain ⟨rfl, q1⟩ := e2.quiet (q15 cj (by simp)); exact ⟨M, q1 _, back _ h1⟩
 case w.q => obtain ⟨rfl, q1⟩ := e2.quiet (q15 cj (by simp)); exact ⟨M, q1 _, back _ h1⟩
 case q.m => obtain ⟨rfl, q1⟩ := h1.quiet (q15 ci (by simp)); exact ⟨Mij, e2, back _ (q1 _)⟩
 case m.q => obtain ⟨rfl, q1⟩ := e2.quiet (q15 cj (by simp)); exact ⟨M, q1 _, back _ h1⟩
 case m.r | m.w | m.a =>
  cases RK with
  | none => simp at hok
  | some wK =>
   obtain ⟨ws, K⟩ := wK
   obtain ⟨rfl, q1⟩ := h1.still ci
   exact ⟨Mij, e2, back _ (q1 _)⟩
 case r.m | w.m | a.m =>
  cases RK with
  | none => simp at hok
  | some wK =>
   obtain ⟨ws, K⟩ := wK
   obtain ⟨rfl, q1⟩ := e2.still cj
   exact ⟨M, q1 _, back _ h1⟩
 case r.w =>
  cases RK with
  | none => simp at hok
  | some wK =>
   obtain ⟨ws, K⟩ := wK
   obtain rfl := h1.reads ci
   exact ⟨Mij, e2, back _ (h1.rkeep ci (e2.wkeep cj))⟩
 case w.r =>
  cases RK with
  | none => simp at hok
  | some wK =>
   obtain ⟨ws, K⟩ := wK
   have hk := h1.wkeep ci
   obtain rfl := e2.reads cj
   exact ⟨M, e2.rkeep cj (fun k hK => (hk k hK).symm), back _ h1⟩
 case r.r =>
  obtain rfl := h1.reads ci
  obtain rfl := e2.reads cj
  exact ⟨Mij, e2, back _ h1⟩
 case r.a =>
  obtain rfl := h1.reads ci
  rcases e2.makes (q15 cj (by simp)) with ⟨rfl, q1⟩ | ⟨d, blk, b1, b2, rfl, b4⟩
  ·exact ⟨Mij, e2, back _ h1⟩
  ·exact ⟨_, e2, back _ (h1.frame hi ci b2 _).2⟩
 case a.r =>
  rcases h1.makes (q15 ci (by simp)) with ⟨rfl, q1⟩ | ⟨d, blk, b1, b2, rfl, b4⟩
  ·exact ⟨Mij, e2, back _ (q1 _)⟩
  ·obtain ⟨rfl, f2⟩ := e2.unframe hi cj b2 _
   exact ⟨M, f2, back _ h1⟩
 case a.a =>
  rcases h1.makes (q15 ci (by simp)) with ⟨rfl, q1⟩ | ⟨d, blk, b1, b2, rfl, b4⟩
  ·exact ⟨Mij, e2, back _ (q1 _)⟩
  ·rcases e2.makes (q15 cj (by simp)) with ⟨rfl, q1⟩ | ⟨e, blk', c1, c2, rfl, c4⟩
   ·exact ⟨M, q1 _, back _ h1⟩
   ·have hne : d ≠ e := fun he => a2 d b1 (by rw [c1, he])
    rw [q0h _ _ (Ne.symm hne)] at c2
    refine ⟨_, c4 M c2, back _ ?_⟩
    rw [q7w M _ _ (Ne.symm hne)]
    exact b4 _ (by rw [q0h _ _ hne]; exact b2)
theorem CallsA.wp {s : AS} {o : Oper} {Kf : Nat → Bool} {out : Out} {n : Nat} {B : Nat → Prop} {G : Gh} {a : Act} {w : World} (h : Rel n B G s a w)
 {K : Act → World → Prop} {Q : Exit → Act → World → Prop}
 (hr : match out with
  | .ret x => ∀ v' w' G', Adv G w G' w' → Rel n B G' ⟨s.T, if x.flt = true then s.M else kill Kf s.M⟩ a w' → VR (Dm (if x.flt = true then s.M else kill Kf s.M)) G' B w' x v' → K (a.put o.dst v') w'
  | .pan x => ∀ v' w' G', Adv G w G' w' → Rel n B G' ⟨s.T, if x.flt = true then s.M else kill Kf s.M⟩ a w' → VR (Dm (if x.flt = true then s.M else kill Kf s.M)) G' B w' x v' → Q (.panic [{ v := v', recovered := false }]) a w') (hc : CallsA P s o Kf out) :
 o.wp P a w K Q := by
 obtain ⟨x, args, ts, f, caps, ho, hf, hst, he⟩ := hc
 obtain ⟨fn, hfn, hnm, hbd⟩ := he.1.ok
 have hx := h.ev x
 rw [hf] at hx
 generalize hxv : a.eval x = xv at hx
 cases hx with
 | fn _ _ vs hl hh =>
  have hrun : (execOp a.eval o).run P w = .ok (.enter f (args.map a.eval ++ vs)) w := by
   unfold execOp
   rw [ho]
   have h1 : (fn.name = "runtime.NumGoroutine") = False := by simpa using hnm
   have h2 : (fn.body = none) = False := by simp only [eq_iff_iff, iff_false]; intro hn; rw [hn] at hbd; simp at hbd
   simp [resolve, hxv, Deferred.ofValue, invoke, callFunc, hfn, h1, h2]
  unfold Oper.wp
  rw [hrun]
  simp only [Oper.upon]
  obtain ⟨q1, q2⟩ := q9k h args
  refine call_ok h Kf (args := evs s.T args.toList ++ caps) (by simp [q1, hl]) (fun i y u hy hu => ?_) hst he ?_
  ·rcases Nat.lt_or_ge i (evs s.T args.toList).length with hlt | hge
   ·rw [List.getElem?_append_left hlt] at hy
    rw [Array.getElem?_append_left (by rw [q1]; exact hlt)] at hu
    obtain ⟨u', hu', hr'⟩ := q2 i y hy
    rw [hu] at hu'
    exact (Option.some.inj hu') ▸ hr'
   ·rw [List.getElem?_append_right hge] at hy
    rw [Array.getElem?_append_right (by rw [q1]; exact hge), q1] at hu
    exact hh _ y u hy hu
  ·cases out <;> exact hr
theorem YA.sound {ops : Array Oper} (hT : q2r P TE) (hE : ∀ t, EQ t = true → EqOk P t) {n : Nat} {B : Nat → Prop} {G : Gh} {s : AS} {a : Act} {w : World} (h : Rel n B G s a w) {o : Oper} {v : AVal} {M' : Mem}
 (hd : ∀ t, o.dst = some t → t < n) (hy : YA P TE EQ RK ops s o v M') {K : Act → World → Prop} {Q : Exit → Act → World → Prop}
 (hK : ∀ a' w' G', Adv G w G' w' → Rel n B G' (AS.put ⟨s.T, M'⟩ o.dst v) a' w' → K a' w') :
 if Region.wanted o (yielded ops a.tmps) = true then o.wp P a w K Q else K (a.put o.dst undef) w := by
 rcases hy with ⟨hw, hs⟩ | ⟨hw, rfl, rfl⟩
 ·rw [if_pos (q5c h hw)]
  rcases hs with ⟨ups, h1, rfl, h3, h4⟩ | ⟨Kf, hc, rfl, hk, _⟩
  ·obtain ⟨r, w', v', G', e1, e2, e3, e4, e5⟩ := opA_ok hT hE h h1
   unfold Oper.wp
   rw [e1]
   rcases e2 with rfl | ⟨rfl, rfl⟩
   ·exact hK _ _ G' e3 (e4.put hd e5)
   ·exact hK _ _ G' e3 (e4.put hd e5)
  ·refine CallsA.wp (out := .ret v) h (fun v' w' G' hA hR hV => ?_) hc
   have hM : (if v.flt = true then s.M else kill Kf s.M) = s.M := by
    rcases hk with hk | hk
    ·simp [hk]
    ·subst hk; simp [qc8]
   rw [hM] at hR hV
   exact hK _ _ G' hA (hR.put hd hV)
 ·rw [if_neg (by rw [q5c h hw]; simp)]
  refine hK _ _ G (.refl G w) (h.put hd ?_)
  exact .tup [] #[] rfl fun n x v hx => by simp at hx
theorem qgf {o : Oper} {a : Act} {w : World} {K : Act → World → Prop} (h : o.wp P a w K (fun _ _ _ => False)) : ∃ a' w', K a' w' := by
 unfold Oper.wp at h
 generalize (execOp a.eval o).run P w = r at h
 cases r with
 | ok n w' =>
  cases n <;> simp only [Oper.upon] at h
  case value u => exact ⟨_, _, h⟩
  case skip => exact ⟨_, _, h⟩
  case defer d => exact ⟨_, _, h⟩
  case enter f args =>
   obtain ⟨e, w'', fr, hR, _⟩ := h []
   cases e with
   | returned v => exact ⟨_, _, hR⟩
   | panicked c => exact hR.elim
   | outgrown => obtain ⟨_, _, hf⟩ := hR; exact hf.elim
  case row row args =>
   obtain ⟨v, w'', hR, _⟩ := h default []
   exact ⟨_, _, hR⟩
 | halt x w' => cases x <;> simp only [Oper.upon] at h
theorem YA.inh {ops : Array Oper} (hT : q2r P TE) (hE : ∀ t, EQ t = true → EqOk P t) {n : Nat} {s : AS} (h : Inh n s) {o : Oper} {v : AVal} {M' : Mem}
 (hd : ∀ t, o.dst = some t → t < n) (hy : YA P TE EQ RK ops s o v M') : Inh n (AS.put ⟨s.T, M'⟩ o.dst v) := by
 obtain ⟨B, G, a, w, h⟩ := h
 have := YA.sound (Q := fun _ _ _ => False) (K := fun a' w' => ∃ G', Rel n B G' (AS.put ⟨s.T, M'⟩ o.dst v) a' w') hT hE h hd hy (fun a' w' G' _ hR => ⟨G', hR⟩)
 split at this
 ·obtain ⟨a', w', G', hR⟩ := qgf this
  exact ⟨B, G', a', w', hR⟩
 ·obtain ⟨G', hR⟩ := this
  exact ⟨B, G', _, _, hR⟩
end
end
def EvNew (P : Program) (f : FuncId) (args : List AVal) (cs : List AVal) : Prop :=
 Callable P f ∧ ∀ (B : Nat → Prop) (w : World) (vs : Array Value) (G : Gh), (∀ b, G.ow b = none) → vs.size = args.length →
  (∀ (i : Nat) (x : AVal) (v : Value), args[i]? = some x → vs[i]? = some v → VR (Dm NoM) G B w x v) → (∀ b, B b → b < w.heap.size) →
  Calls P f vs w (fun e w' => ∃ (G' : Gh) (b : Nat) (c : Array Value) (el : TypeId), w.heap.size ≤ b ∧ b < w'.heap.size ∧ (G'.ow b ≠ none) ∧ Adv G w G' w' ∧
   e = .returned (.pointer (some ⟨b, 0, none⟩)) ∧ w'.heap[b]? = some (.cells c el (0, 0)) ∧ c.size = cs.length ∧
   ∀ (i : Nat) (x : AVal), cs[i]? = some x → ∃ u, c[i]? = some u ∧ VR (Dm NoM) G' B w' x u)
theorem z2j {P : Program} {n : Nat} {B : Nat → Prop} {G : Gh} {s : AS} {a : Act} {w : World} (h : Rel n B G s a w) {f : FuncId} {args cs : List AVal} {vs : Array Value} (hl : vs.size = args.length)
 (hv : ∀ (i : Nat) (x : AVal) (v : Value), args[i]? = some x → vs[i]? = some v → VR (Dm s.M) G B w x v) (hs : q0i (args.map (fz (fun _ => false) s.M)) = true) (he : EvNew P f (args.map (fz (fun _ => false) s.M)) cs)
 {k : Nat} (hk : s.M k = none) {R : Ending → World → Prop}
 (hr : ∀ v' w' G', Adv G w G' w' → Rel n B G' ⟨s.T, upd s.M k (some (.cells cs))⟩ a w' → VR (Dm (upd s.M k (some (.cells cs)))) G' B w' (.ptr k 0) v' → R (.returned v') w') :
 Calls P f vs w R := by
 let B' : Nat → Prop := fun b => B b ∨ G.ow b ≠ none
 let G0 : Gh := { G with ow := fun _ => none }
 have hargs : ∀ (i : Nat) (x : AVal) (v : Value), (args.map (fz (fun _ => false) s.M))[i]? = some x → vs[i]? = some v → VR (Dm NoM) G0 B' w x v := by
  intro i x v hx hvi
  have hst := q3y hs hx
  rw [List.getElem?_map] at hx
  cases ha : args[i]? with
  | none => simp [ha] at hx
  | some y =>
   simp only [ha, Option.map_some, Option.some.injEq] at hx
   subst hx
   refine (qnz (K := fun _ => false) h.mem (hv i y v ha hvi)).stable (fun b _ hn ho => ?_) hst
   have ho' : G.ow b = none := by
    simp only [Gh.without] at ho
    cases hb : G.ow b with
    | none => rfl
    | some key => simp [hb] at ho
   exact ⟨rfl, by simp only [B', not_or]; exact ⟨hn, fun hc => hc ho'⟩, rfl⟩
 have hB' : ∀ b, B' b → b < w.heap.size := fun b hb => by
  rcases hb with hb | hb
  ·exact (h.fr b hb).1
  ·exact h.ol b hb
 refine (he.2 B' w vs G0 (fun _ => rfl) (by simpa using hl) hargs hB').mono fun e w' ⟨G', b, c, el, hb1, hb2, hob, hA, heq, hheap, hcs, hcells⟩ => ?_
 subst heq
 have hsame : ∀ b', b' < w.heap.size → w'.heap[b']? = w.heap[b']? := fun b' hb => (hA.keep b' hb rfl).1
 let G1 : Gh := { β := upd G.β k b, hd := G.hd, ow := fun b' => if b' = b then some (.box k) else G.ow b', hd1 := G.hd1 }
 have g1 : ∀ b', b' < w.heap.size → G1.ow b' = G.ow b' := fun b' hlt => if_neg (by omega)
 have hA1 : Adv G w G1 w' := ⟨hA.os, hA.tape, hA.output, hA.size, fun b' hlt ho => ⟨hsame b' hlt, by rw [g1 b' hlt]; exact ho⟩⟩
 have hG : ∀ j e, Dm s.M j e → G1.β j = G.β j ∧ G1.hd j e = G.hd j e := fun j e hj => ⟨q0h _ _ (fun e' => by subst e'; exact q5w hk hj), rfl⟩
 have hnB : ¬ B b := fun hB => by have := (h.fr b hB).1; omega
 have hR1 : Rel n B G1 ⟨s.T, upd s.M k (some (.cells cs))⟩ a w' := by
  refine h.update hA1 k (.cells cs) (by rw [hk]; trivial) hG (fun b' key hlt _ ho _ => ⟨hsame b' hlt, by rw [g1 b' hlt]; exact ho⟩) (fun b' hne => ?_) ?_
  ·by_cases e : b' = b
   ·rw [e]; exact hb2
   ·have : G1.ow b' = G.ow b' := if_neg e
    rw [this] at hne
    exact Nat.lt_of_lt_of_le (h.ol b' hne) hA.size
  ·have hβ : G1.β k = b := q00 _ _ _
   refine ⟨c, el, by rw [hβ]; exact if_pos rfl, by rw [hβ]; exact hnB, by rw [hβ]; exact hheap, hcs, fun i x hx => ?_⟩
   obtain ⟨u, hu, hvr⟩ := hcells i x hx
   refine ⟨u, hu, CellRel.of_VR (hvr.mono (fun _ _ h => absurd h qd8) (fun _ _ h => absurd h qd8) fun b' hlt hn ho => ?_)⟩
   simp only [B', not_or, ne_eq, Classical.not_not] at hn
   have hne : b' ≠ b := fun e => by rw [e] at ho; exact hob ho
   exact ⟨rfl, hn.1, (if_neg hne).trans hn.2⟩
 refine hr _ w' G1 hA1 hR1 ?_
 have hβ : G1.β k = b := q00 _ _ _
 have := VR.ptr (D := Dm (upd s.M k (some (.cells cs)))) (G := G1) (B := B) (w := w') k 0 (by simp [Dm, q00])
 rw [hβ] at this
 exact this
def EvFresh (P : Program) (f : FuncId) (args : List AVal) (sz : Nat) (xs : List AVal) : Prop :=
 Callable P f ∧ ∀ (B : Nat → Prop) (w : World) (vs : Array Value) (G : Gh), (∀ b, G.ow b = none) → vs.size = args.length →
  (∀ (i : Nat) (x : AVal) (v : Value), args[i]? = some x → vs[i]? = some v → VR (Dm NoM) G B w x v) → (∀ b, B b → b < w.heap.size) →
  Calls P f vs w (fun e w' => ∃ (G' : Gh) (v : Value) (key : OKey), e = .returned v ∧ Adv G w G' w' ∧ (∀ b, G'.ow b ≠ none → b < w'.heap.size) ∧ OwnAt (Dm NoM) G' B w' key sz xs v)
theorem qm4 {P : Program} {n : Nat} {B : Nat → Prop} {G : Gh} {s : AS} {a : Act} {w : World} (h : Rel n B G s a w) {f : FuncId} {args xs : List AVal} {sz : Nat} {vs : Array Value} (hl : vs.size = args.length)
 (hv : ∀ (i : Nat) (x : AVal) (v : Value), args[i]? = some x → vs[i]? = some v → VR (Dm s.M) G B w x v) (hs : q0i (args.map (fz (fun _ => false) s.M)) = true) (he : EvFresh P f (args.map (fz (fun _ => false) s.M)) sz xs)
 {k : Nat} (hk : s.M k = none) {R : Ending → World → Prop}
 (hr : ∀ v' w' G', Adv G w G' w' → Rel n B G' ⟨s.T, upd s.M k (some (.arr 0 sz xs))⟩ a w' → VR (Dm (upd s.M k (some (.arr 0 sz xs)))) G' B w' (.os k 0) v' → R (.returned v') w') :
 Calls P f vs w R := by
 let B' : Nat → Prop := fun b => B b ∨ G.ow b ≠ none
 let G0 : Gh := { G with ow := fun _ => none }
 have hargs : ∀ (i : Nat) (x : AVal) (v : Value), (args.map (fz (fun _ => false) s.M))[i]? = some x → vs[i]? = some v → VR (Dm NoM) G0 B' w x v := by
  intro i x v hx hvi
  have hst := q3y hs hx
  rw [List.getElem?_map] at hx
  cases ha : args[i]? with
  | none => simp [ha] at hx
  | some y =>
   simp only [ha, Option.map_some, Option.some.injEq] at hx
   subst hx
   refine (qnz (K := fun _ => false) h.mem (hv i y v ha hvi)).stable (fun b _ hn ho => ?_) hst
   have ho' : G.ow b = none := by
    simp only [Gh.without] at ho
    cases hb : G.ow b with
    | none => rfl
    | some key => simp [hb] at ho
   exact ⟨rfl, by simp only [B', not_or]; exact ⟨hn, fun hc => hc ho'⟩, rfl⟩
 have hB' : ∀ b, B' b → b < w.heap.size := fun b hb => by
  rcases hb with hb | hb
  ·exact (h.fr b hb).1
  ·exact h.ol b hb
 refine (he.2 B' w vs G0 (fun _ => rfl) (by simpa using hl) hargs hB').mono fun e w' ⟨G', v, key, heq, hA, hol, hown⟩ => ?_
 subst heq
 have hsame : ∀ b', b' < w.heap.size → w'.heap[b']? = w.heap[b']? := fun b' hb => (hA.keep b' hb rfl).1
 have hnone : ∀ b', b' < w.heap.size → G'.ow b' = none := fun b' hb => (hA.keep b' hb rfl).2
 let ow1 : Nat → Option OKey := fun b' => if w.heap.size ≤ b' then (if G'.ow b' = some key then some (.arr k) else none) else G.ow b'
 let G1 : Gh := G.setHd k 0 v hown.one ow1
 have g1 : ∀ b', b' < w.heap.size → G1.ow b' = G.ow b' := fun b' hlt => if_neg (by omega)
 have g2 : ∀ b', w.heap.size ≤ b' → G1.ow b' = if G'.ow b' = some key then some (.arr k) else none := fun b' hge => if_pos hge
 have hA1 : Adv G w G1 w' := ⟨hA.os, hA.tape, hA.output, hA.size, fun b' hlt ho => ⟨hsame b' hlt, by rw [g1 b' hlt]; exact ho⟩⟩
 have hG := qbi (G := G) (v := v) (hv := hown.one) (ow := ow1) (q5w (M := s.M) (e := 0) hk)
 have hblk : OwnAt (Dm (upd s.M k (some (.arr 0 sz xs)))) G1 B w' (.arr k) sz xs v := by
  refine hown.trade (fun b hb ho => ?_) (fun x _ u hr => hr.mono (fun _ _ h => absurd h qd8) (fun _ _ h => absurd h qd8) fun b' hlt hn ho => ?_)
  ·have hge : w.heap.size ≤ b := by
    rcases Nat.lt_or_ge b w.heap.size with h' | h'
    ·rw [hnone b h'] at ho; cases ho
    ·exact h'
   exact ⟨fun hB => hb (.inl hB), by rw [g2 b hge, if_pos ho]⟩
  ·simp only [B', not_or, ne_eq, Classical.not_not] at hn
   refine ⟨rfl, hn.1, ?_⟩
   rcases Nat.lt_or_ge b' w.heap.size with h' | h'
   ·rw [g1 b' h']; exact hn.2
   ·rw [g2 b' h', ho, if_neg (by simp)]
 have hR1 : Rel n B G1 ⟨s.T, upd s.M k (some (.arr 0 sz xs))⟩ a w' := by
  refine h.update hA1 k (.arr 0 sz xs) (by rw [hk]; trivial) hG (fun b' key' hlt _ ho _ => ⟨hsame b' hlt, by rw [g1 b' hlt]; exact ho⟩) (fun b' hne => ?_) ?_
  ·rcases Nat.lt_or_ge b' w.heap.size with h' | h'
   ·exact Nat.lt_of_lt_of_le h' hA.size
   ·rw [g2 b' h'] at hne
    split at hne
    ·rename_i hq; exact hol b' (by rw [hq]; simp)
    ·exact absurd rfl hne
  ·show OwnAt _ G1 B w' (.arr k) sz xs (G1.hd k 0)
   rw [show G1.hd k 0 = v from q2n]
   exact hblk
 exact hr v w' G1 hA1 hR1 (.os k 0 (by simp [Dm, q00]) v q2n.symm)
def MakesB (P : Program) (f : FuncId) (args : List AVal) (e : Nat) (v : AVal) (blk : ABlk) : Prop :=
 (∃ cs, blk = .cells cs ∧ v = .ptr e 0 ∧ EvNew P f args cs) ∨ (∃ sz xs, blk = .arr 0 sz xs ∧ v = .os e 0 ∧ EvFresh P f args sz xs)
theorem MakesB.ok {P : Program} {f : FuncId} {args : List AVal} {e : Nat} {v : AVal} {blk : ABlk} (h : MakesB P f args e v blk) : Callable P f := by
 rcases h with ⟨_, _, _, h⟩ | ⟨_, _, _, _, h⟩
 ·exact h.1
 ·exact h.1
theorem qm3 {P : Program} {n : Nat} {B : Nat → Prop} {G : Gh} {s : AS} {a : Act} {w : World} (h : Rel n B G s a w) {f : FuncId} {args : List AVal} {k : Nat} {v : AVal} {blk : ABlk} {vs : Array Value} (hl : vs.size = args.length)
 (hv : ∀ (i : Nat) (x : AVal) (v : Value), args[i]? = some x → vs[i]? = some v → VR (Dm s.M) G B w x v) (hs : q0i (args.map (fz (fun _ => false) s.M)) = true) (he : MakesB P f (args.map (fz (fun _ => false) s.M)) k v blk)
 (hk : s.M k = none) {R : Ending → World → Prop}
 (hr : ∀ v' w' G', Adv G w G' w' → Rel n B G' ⟨s.T, upd s.M k (some blk)⟩ a w' → VR (Dm (upd s.M k (some blk))) G' B w' v v' → R (.returned v') w') :
 Calls P f vs w R := by
 rcases he with ⟨cs, rfl, rfl, he⟩ | ⟨sz, xs, rfl, rfl, he⟩
 ·exact z2j h hl hv hs he hk hr
 ·exact qm4 h hl hv hs he hk hr

mutual
def AVal.kin (K : Nat → Bool) : AVal → Bool
 | .ptr k _ => K k
 | .mp k => K k
 | .agg cs => q7t K cs
 | .tup cs => q7t K cs
 | .fn _ cs => q7t K cs
 | .iface _ v => v.kin K
 | x => x.stb
def q7t (K : Nat → Bool) : List AVal → Bool
 | [] => true
 | x :: r => x.kin K && q7t K r
end
mutual
def AVal.ren (ρ : Nat → Nat) : AVal → AVal
 | .ptr k o => .ptr (ρ k) o
 | .mp k => .mp (ρ k)
 | .agg cs => .agg (q79 ρ cs)
 | .tup cs => .tup (q79 ρ cs)
 | .fn f cs => .fn f (q79 ρ cs)
 | .iface t v => .iface t (v.ren ρ)
 | x => x
def q79 (ρ : Nat → Nat) : List AVal → List AVal
 | [] => []
 | x :: r => x.ren ρ :: q79 ρ r
end
theorem q8j {K : Nat → Bool} : ∀ {l : List AVal}, q7t K l = true → ∀ {n : Nat} {x : AVal}, l[n]? = some x → x.kin K = true
 | [], _, n, x, hx => by simp at hx
 | y :: l, h, n, x, hx => by
  simp only [q7t, Bool.and_eq_true] at h
  cases n with
  | zero => simp at hx; subst hx; exact h.1
  | succ n => exact q8j h.2 (by simpa using hx)
theorem q88 {ρ : Nat → Nat} : ∀ {l : List AVal} {n : Nat} {y : AVal}, (q79 ρ l)[n]? = some y → ∃ x, l[n]? = some x ∧ y = x.ren ρ
 | [], n, y, h => by simp [q79] at h
 | x :: l, 0, y, h => by simp [q79] at h; exact ⟨x, rfl, h.symm⟩
 | x :: l, n + 1, y, h => by simpa using q88 (l := l) (n := n) (by simpa [q79] using h)
theorem q87 {ρ : Nat → Nat} : ∀ l : List AVal, (q79 ρ l).length = l.length
 | [] => rfl
 | x :: l => by simp [q79, q87 l]
theorem VR.ren {D D' : Nat → Nat → Prop} {G G' : Gh} {B B' : Nat → Prop} {w w' : World} {K : Nat → Bool} {ρ : Nat → Nat}
 (hw : ∀ b, b < w.heap.size → ¬ B b → G.ow b = none → w'.heap[b]? = w.heap[b]? ∧ ¬ B' b ∧ G'.ow b = none)
 (hD : ∀ k, K k = true → D k 0 → D' (ρ k) 0 ∧ G'.β (ρ k) = G.β k) {x : AVal} {v : Value} (h : VR D G B w x v) (hk : x.kin K = true) : VR D' G' B' w' (x.ren ρ) v := by
 induction h with
 | undef v => exact .undef v
 | int k n => exact .int k n
 | bool b => exact .bool b
 | str s => exact .str s
 | nil => exact .nil
 | slnil sz => exact .slnil sz
 | slemp sz a cap => exact .slemp sz a cap
 | sl sz xs b off cap f hcap hB hone hsz hc hv ih => exact (VR.sl (D := D) sz xs b off cap f hcap hB hone hsz hc hv).stable hw hk
 | agg cs vs hl h ih =>
  refine .agg _ vs (by rw [q87]; exact hl) fun n y u hy hu => ?_
  obtain ⟨x, hx, rfl⟩ := q88 hy
  exact ih n x u hx hu (q8j (by simpa [AVal.kin] using hk) hx)
 | tup cs vs hl h ih =>
  refine .tup _ vs (by rw [q87]; exact hl) fun n y u hy hu => ?_
  obtain ⟨x, hx, rfl⟩ := q88 hy
  exact ih n x u hx hu (q8j (by simpa [AVal.kin] using hk) hx)
 | ptr k off h => obtain ⟨d1, d2⟩ := hD k hk h; rw [← d2]; exact .ptr _ off d1
 | mp k h => obtain ⟨d1, d2⟩ := hD k hk h; rw [← d2]; exact .mp _ d1
 | nilptr => exact .nilptr
 | eptr k e sz i off b o len cap h hh => simp [AVal.kin, AVal.stb] at hk
 | vw k e sz i n b o len cap h hh hn => simp [AVal.kin, AVal.stb] at hk
 | sptr cs b off f hB hc hv ih => exact (VR.sptr (D := D) cs b off f hB hc hv).stable hw hk
 | os k e h v hv => simp [AVal.kin, AVal.stb] at hk
 | fn f cs vs hl h ih =>
  refine .fn f _ vs (by rw [q87]; exact hl) fun n y u hy hu => ?_
  obtain ⟨x, hx, rfl⟩ := q88 hy
  exact ih n x u hx hu (q8j (by simpa [AVal.kin] using hk) hx)
 | nilfn => exact .nilfn
 | niliface => exact .niliface
 | iface t x v h ih => exact .iface t _ v (ih (by simpa [AVal.kin] using hk))
def q0j : AVal → Bool
 | .own _ xs => q0i xs
 | .hole => true
 | .ref _ => false
 | x => x.stb
theorem q5r {D D' : Nat → Nat → Prop} {G G' : Gh} {B B' : Nat → Prop} {w : World} {j k : Nat} {cs : List AVal} (hs : ∀ x ∈ cs, q0j x = true) (hβ : G'.β k = G.β j)
 (hbox : ∀ b, ¬ B b → G.ow b = some (.box j) → ¬ B' b ∧ G'.ow b = some (.box k)) (hcell : ∀ b i, ¬ B b → G.ow b = some (.cell j i) → ¬ B' b ∧ G'.ow b = some (.cell k i))
 (hw : ∀ b, b < w.heap.size → ¬ B b → G.ow b = none → ¬ B' b ∧ G'.ow b = none) (h : BlkRel D G B w j (.cells cs)) : BlkRel D' G' B' w k (.cells cs) := by
 obtain ⟨c, el, b1, b2, b3, b4, b5⟩ := h
 obtain ⟨q1, q2⟩ := hbox _ b2 b1
 have stab : ∀ x : AVal, x.stb = true → ∀ u, VR D G B w x u → VR D' G' B' w x u := fun x hx u hr => hr.stable (fun b hb hn ho => ⟨rfl, hw b hb hn ho⟩) hx
 refine ⟨c, el, by rw [hβ]; exact q2, by rw [hβ]; exact q1, by rw [hβ]; exact b3, b4, fun i x hx => ?_⟩
 obtain ⟨u, hu, hr⟩ := b5 i x hx
 refine ⟨u, hu, ?_⟩
 have hsx := hs x (List.mem_of_getElem? hx)
 cases x with
 | own sz xs => exact OwnAt.trade (fun b hb ho => hcell b i hb ho) (fun y hy u hr => stab y (q2j hsx y hy) u hr) hr
 | hole => trivial
 | ref cs => cases hsx
 | _ => exact stab _ hsx u hr
abbrev qe8 := List (Nat × List AVal)
def q3v (m : qe8) : Mem := fun k => (m.find? fun p => p.1 == k).map fun p => .cells p.2
def lin (m : qe8) (k : Nat) : Bool := (q3v m k).isSome
theorem q3o {m : qe8} {k : Nat} (h : lin m k = true) : ∃ cs, q3v m k = some (.cells cs) := by
 unfold lin at h
 obtain ⟨b, hb⟩ := Option.isSome_iff_exists.1 h
 unfold q3v at hb ⊢
 cases hf : m.find? fun p => p.1 == k with
 | none => simp [hf] at hb
 | some p => exact ⟨p.2, rfl⟩
theorem qnt {m : qe8} {k e : Nat} : Dm (q3v m) k e ↔ lin m k = true := by
 constructor
 ·intro h
  unfold Dm at h
  unfold lin
  cases hm : q3v m k with
  | none => simp [hm] at h
  | some b => rfl
 ·intro h
  obtain ⟨cs, hc⟩ := q3o h
  exact qax hc
theorem q23 {m : qe8} {k : Nat} {b : ABlk} (h : q3v m k = some b) : ∃ cs, b = .cells cs ∧ (k, cs) ∈ m := by
 unfold q3v at h
 cases hf : m.find? fun p => p.1 == k with
 | none => simp [hf] at h
 | some p =>
  simp only [hf, Option.map_some, Option.some.injEq] at h
  have h1 := List.mem_of_find?_eq_some hf
  have h2 : p.1 = k := by simpa using List.find?_some hf
  exact ⟨p.2, h.symm, by rw [← h2]; exact h1⟩
def EvM (P : Program) (f : FuncId) (args : List AVal) (m : qe8) (out : Out) (m' : qe8) : Prop :=
 Callable P f ∧ (∀ k, lin m' k = lin m k) ∧ ∀ (B : Nat → Prop) (w : World) (vs : Array Value) (G : Gh), (∀ b key, G.ow b = some key → lin m key.of = true ∧ ∀ j, key ≠ .arr j) → vs.size = args.length →
  (∀ (i : Nat) (x : AVal) (v : Value), args[i]? = some x → vs[i]? = some v → VR (Dm (q3v m)) G B w x v) → (∀ k blk, q3v m k = some blk → BlkRel (Dm (q3v m)) G B w k blk) →
  (∀ b, B b → b < w.heap.size ∧ G.ow b = none) → (∀ b, G.ow b ≠ none → b < w.heap.size) →
  Calls P f vs w (fun e w' => ∃ (G' : Gh) (v' : Value), (∀ b key, G'.ow b = some key → lin m key.of = true ∧ ∀ j, key ≠ .arr j) ∧ (∀ b, G'.ow b ≠ none → b < w'.heap.size) ∧ Adv G w G' w' ∧
   (∀ k, lin m k = true → G'.β k = G.β k) ∧ (∀ k blk, q3v m' k = some blk → BlkRel (Dm (q3v m')) G' B w' k blk) ∧
   match out with
   | .ret x => e = .returned v' ∧ VR (Dm (q3v m')) G' B w' x v'
   | .pan x => e = .panicked [{ v := v', recovered := false }] ∧ VR (Dm (q3v m')) G' B w' x v')
def OKey.ren (ρ : Nat → Nat) : OKey → OKey
 | .box k => .box (ρ k)
 | .arr k => .arr (ρ k)
 | .cell k i => .cell (ρ k) i
theorem OKey.ren_of (ρ : Nat → Nat) (key : OKey) : (key.ren ρ).of = ρ key.of := by cases key <;> rfl
theorem OKey.ren_id {ρ : Nat → Nat} {key : OKey} (h : ρ key.of = key.of) : key.ren ρ = key := by
 cases key <;> simp only [OKey.ren, OKey.of] at * <;> rw [h]
def q1w (M : Mem) (L : Nat → Bool) (σ : Nat → Nat) (m' : qe8) : Mem := fun j => if L j = true then q3v m' (σ j) else M j
theorem callM_ok {P : Program} {n : Nat} {B : Nat → Prop} {G : Gh} {s : AS} {a : Act} {w : World} (h : Rel n B G s a w) {f : FuncId} {args fargs : List AVal} {vs : Array Value} (hl : vs.size = args.length)
 (hv : ∀ (i : Nat) (x : AVal) (v : Value), args[i]? = some x → vs[i]? = some v → VR (Dm s.M) G B w x v) {m m' : qe8} {L : Nat → Bool} {ρ σ : Nat → Nat}
 (hL : ∀ j, L j = true → lin m (σ j) = true ∧ ρ (σ j) = j) (hρ : ∀ k, lin m k = true → L (ρ k) = true ∧ σ (ρ k) = k) (hm : ∀ k cs, q3v m k = some (.cells cs) → s.M (ρ k) = some (.cells cs))
 (hst : ∀ p ∈ m, ∀ x ∈ p.2, q0j x = true) (hst' : ∀ p ∈ m', ∀ x ∈ p.2, q0j x = true) (hk : q7t L args = true) (ha : q79 σ args = fargs) {out : Out} {R : Ending → World → Prop}
 (hR : match out with
  | .ret x => x.kin (lin m) = true ∧ ∀ v' w' G', Adv G w G' w' → Rel n B G' ⟨s.T, q1w s.M L σ m'⟩ a w' → VR (Dm (q1w s.M L σ m')) G' B w' (x.ren ρ) v' → R (.returned v') w'
  | .pan x => x.kin (lin m) = true ∧ ∀ v' w' G', Adv G w G' w' → Rel n B G' ⟨s.T, q1w s.M L σ m'⟩ a w' → VR (Dm (q1w s.M L σ m')) G' B w' (x.ren ρ) v' → R (.panicked [{ v := v', recovered := false }]) w') (he : EvM P f fargs m out m') :
 Calls P f vs w R := by
 obtain ⟨_, hdom, he⟩ := he
 have hLM : ∀ j, L j = true → ∃ cs, q3v m (σ j) = some (.cells cs) ∧ s.M j = some (.cells cs) := fun j hj => by
  obtain ⟨q1, q2⟩ := hL j hj
  obtain ⟨cs, hc⟩ := q3o q1
  have := hm _ cs hc
  rw [q2] at this
  exact ⟨cs, hc, this⟩
 let B' : Nat → Prop := fun b => B b ∨ ∃ key, G.ow b = some key ∧ (L key.of = false ∨ ∃ j, key = .arr j)
 let ow0 : Nat → Option OKey := fun b => match G.ow b with
  | some (.box j) => if L j = true then some (.box (σ j)) else none
  | some (.cell j i) => if L j = true then some (.cell (σ j) i) else none
  | _ => none
 let G0 : Gh := { G with β := fun k => G.β (ρ k), ow := ow0 }
 have g0 : ∀ b, G.ow b = none → G0.ow b = none := fun b hb => by simp only [G0, ow0, hb]
 have g0s : ∀ b key, G0.ow b = some key → lin m key.of = true ∧ (∀ j, key ≠ .arr j) ∧ G.ow b = some (key.ren ρ) := by
  intro b key hb
  simp only [G0, ow0] at hb
  split at hb
  ·rename_i j ho
   split at hb
   ·rename_i hj
    simp only [Option.some.injEq] at hb
    subst hb
    obtain ⟨q1, q2⟩ := hL j hj
    exact ⟨q1, fun _ h => (by cases h), by rw [ho]; simp only [OKey.ren, q2]⟩
   ·cases hb
  ·rename_i j i ho
   split at hb
   ·rename_i hj
    simp only [Option.some.injEq] at hb
    subst hb
    obtain ⟨q1, q2⟩ := hL j hj
    exact ⟨q1, fun _ h => (by cases h), by rw [ho]; simp only [OKey.ren, q2]⟩
   ·cases hb
  ·cases hb
 have nB' : ∀ b, ¬ B b → G.ow b = none → ¬ B' b := fun b hn ho hb => by
  rcases hb with hb | ⟨key, hk, _⟩
  ·exact hn hb
  ·rw [ho] at hk; cases hk
 have unown : ∀ b, b < w.heap.size → ¬ B b → G.ow b = none → w.heap[b]? = w.heap[b]? ∧ ¬ B' b ∧ G0.ow b = none := fun b _ hn ho => ⟨rfl, nB' b hn ho, g0 b ho⟩
 have hargs : ∀ (i : Nat) (x : AVal) (v : Value), fargs[i]? = some x → vs[i]? = some v → VR (Dm (q3v m)) G0 B' w x v := by
  intro i x v hx hvi
  rw [← ha] at hx
  obtain ⟨y, hy, rfl⟩ := q88 hx
  refine (hv i y v hy hvi).ren (K := L) unown (fun j hj hd => ?_) (q8j hk hy)
  obtain ⟨q1, q2⟩ := hL j hj
  exact ⟨qnt.2 q1, by simp only [G0, q2]⟩
 have hblk : ∀ k blk, q3v m k = some blk → BlkRel (Dm (q3v m)) G0 B' w k blk := by
  intro k blk hb
  obtain ⟨cs, rfl, hmem⟩ := q23 hb
  have hlin : lin m k = true := by unfold lin; rw [hb]; rfl
  obtain ⟨r1, r2⟩ := hρ k hlin
  refine q5r (hst _ hmem) (by simp only [G0]) (fun b hn ho => ⟨fun hB => ?_, by simp only [G0, ow0, ho, r1, if_true, r2]⟩) (fun b i hn ho => ⟨fun hB => ?_, by simp only [G0, ow0, ho, r1, if_true, r2]⟩) (fun b _ hn ho => ⟨nB' b hn ho, g0 b ho⟩) (h.mem _ _ (hm k cs hb))
  ·rcases hB with hB | ⟨key, hk, hc⟩
   ·exact hn hB
   ·rw [ho] at hk
    cases hk
    rcases hc with hc | ⟨j, hc⟩
    ·rw [show OKey.of (.box (ρ k)) = ρ k from rfl, r1] at hc; cases hc
    ·cases hc
  ·rcases hB with hB | ⟨key, hk, hc⟩
   ·exact hn hB
   ·rw [ho] at hk
    cases hk
    rcases hc with hc | ⟨j, hc⟩
    ·rw [show OKey.of (.cell (ρ k) i) = ρ k from rfl, r1] at hc; cases hc
    ·cases hc
 refine (he B' w vs G0 (fun b key hb => ⟨(g0s b key hb).1, (g0s b key hb).2.1⟩) (by rw [hl, ← ha, q87]) hargs hblk (fun b hb => ?_) (fun b hb => h.ol b fun hn => hb (g0 b hn))).mono ?_
 ·rcases hb with hb | ⟨key, hk, hc⟩
  ·exact ⟨(h.fr b hb).1, g0 b (h.fr b hb).2⟩
  ·refine ⟨h.ol b (by rw [hk]; simp), ?_⟩
   cases hq : G0.ow b with
   | none => rfl
   | some key0 =>
    obtain ⟨q1, q2, q3⟩ := g0s b key0 hq
    rw [hk] at q3
    simp only [Option.some.injEq] at q3
    subst q3
    rcases hc with hc | ⟨j, hc⟩
    ·rw [OKey.ren_of, (hρ _ q1).1] at hc; cases hc
    ·cases key0 <;> simp only [OKey.ren, reduceCtorEq] at hc
     exact absurd rfl (q2 _)
 intro en w' hx
 obtain ⟨G', v', hkeys, hol, hA, hβ, hmem', hout⟩ := hx
 let lentB : Nat → Bool := fun b => match G.ow b with | some (.arr _) => false | some key => L key.of | none => false
 let ow1 : Nat → Option OKey := fun b => match G'.ow b with
  | some key => some (key.ren ρ)
  | none => if b < w.heap.size then (if lentB b = true then none else G.ow b) else none
 let G1 : Gh := { G with ow := ow1 }
 have keep0 : ∀ b, b < w.heap.size → G0.ow b = none → w'.heap[b]? = w.heap[b]? ∧ G'.ow b = none := fun b hb ho => hA.keep b hb ho
 have notlent : ∀ b, lentB b = false → G0.ow b = none := fun b hb => by
  cases hq : G0.ow b with
  | none => rfl
  | some key0 =>
   obtain ⟨q1, q2, q3⟩ := g0s b key0 hq
   have hr := (hρ _ q1).1
   simp only [lentB, q3] at hb
   cases key0 with
   | arr j => exact absurd rfl (q2 j)
   | box j => simp only [OKey.ren, OKey.of] at hb hr; rw [hr] at hb; cases hb
   | cell j i => simp only [OKey.ren, OKey.of] at hb hr; rw [hr] at hb; cases hb
 have lent0 : ∀ b, G.ow b = none → lentB b = false := fun b ho => by simp only [lentB, ho]
 have hA1 : Adv G w G1 w' := ⟨hA.os, hA.tape, hA.output, hA.size, fun b hb ho => by
  obtain ⟨q1, q2⟩ := keep0 b hb (g0 b ho)
  exact ⟨q1, by simp only [G1, ow1, q2, hb, if_true, lent0 b ho, Bool.false_eq_true, if_false, ho]⟩⟩
 have tDm : ∀ j e, Dm s.M j e → Dm (q1w s.M L σ m') j e := fun j e hd => by
  cases hj : L j with
  | false => simpa only [Dm, q1w, hj, Bool.false_eq_true, if_false] using hd
  | true =>
   have : lin m' (σ j) = true := by rw [hdom]; exact (hL j hj).1
   obtain ⟨cs, hc⟩ := q3o this
   exact qax (show q1w s.M L σ m' j = some (.cells cs) by simp only [q1w, hj, if_true, hc])
 have hw1 : ∀ b, b < w.heap.size → ¬ B b → G.ow b = none → w'.heap[b]? = w.heap[b]? ∧ ¬ B b ∧ G1.ow b = none := fun b hb hn ho => ⟨(hA1.keep b hb ho).1, hn, (hA1.keep b hb ho).2⟩
 have hw2 : ∀ b, b < w'.heap.size → ¬ B' b → G'.ow b = none → ¬ B b ∧ G1.ow b = none := fun b hb hn ho => by
  refine ⟨fun hB => hn (.inl hB), ?_⟩
  simp only [G1, ow1, ho]
  split
  ·split
   ·rfl
   ·rename_i hl
    cases hq : G.ow b with
    | none => rfl
    | some key =>
     exfalso
     refine hn (.inr ⟨key, hq, ?_⟩)
     cases key with
     | arr j => exact .inr ⟨j, rfl⟩
     | box j => exact .inl (by simpa [lentB, hq] using hl)
     | cell j i => exact .inl (by simpa [lentB, hq] using hl)
  ·rfl
 have hR1 : Rel n B G1 ⟨s.T, q1w s.M L σ m'⟩ a w' := by
  refine ⟨h.size, h.defers, fun t => VR.mono (G := G) (G' := G1) (B := B) (B' := B) (w := w) (w' := w') tDm (fun _ _ _ => ⟨rfl, rfl⟩) hw1 (h.temps t), fun j blk hj => ?_, fun b hb => ?_, fun b hb => ?_⟩
  ·cases hLj : L j with
   | false =>
    simp only [q1w, hLj, Bool.false_eq_true, if_false] at hj
    refine BlkRel.mono (G := G) (G' := G1) (B := B) (B' := B) (w := w) (w' := w') tDm (fun _ _ _ => ⟨rfl, rfl⟩) hw1 (fun b key hkey hb hn ho => ?_) (q90 hj) (h.mem j blk hj)
    have hnl : lentB b = false := by
     simp only [lentB, ho]
     cases key <;> simp only [OKey.of] at hkey ⊢ <;> rw [hkey, hLj]
    obtain ⟨q1, q2⟩ := keep0 b hb (notlent b hnl)
    exact ⟨q1, hn, by simp only [G1, ow1, q2, hb, if_true, hnl, Bool.false_eq_true, if_false, ho]⟩
   | true =>
    simp only [q1w, hLj, if_true] at hj
    obtain ⟨cs, rfl, hmc⟩ := q23 hj
    obtain ⟨q1, q2⟩ := hL j hLj
    refine q5r (hst' _ hmc) ?_ (fun b hn ho => ⟨fun hB => hn (.inl hB), ?_⟩) (fun b i hn ho => ⟨fun hB => hn (.inl hB), ?_⟩) hw2 (hmem' _ _ hj)
    ·show G.β j = G'.β (σ j)
     rw [hβ _ q1]
     simp only [G0, q2]
    ·simp only [G1, ow1, ho, OKey.ren, q2]
    ·simp only [G1, ow1, ho, OKey.ren, q2]
  ·obtain ⟨q1, q2⟩ := h.fr b hb
   exact ⟨Nat.lt_of_lt_of_le q1 hA.size, (hA1.keep b q1 q2).2⟩
  ·simp only [G1, ow1] at hb
   cases hq : G'.ow b with
   | some key => exact hol b (by rw [hq]; simp)
   | none =>
    simp only [hq] at hb
    split at hb
    ·rename_i hlt; exact Nat.lt_of_lt_of_le hlt hA.size
    ·exact absurd rfl hb
 have hres : ∀ x : AVal, x.kin (lin m) = true → VR (Dm (q3v m')) G' B' w' x v' → VR (Dm (q1w s.M L σ m')) G1 B w' (x.ren ρ) v' := fun x hx hV => by
  refine hV.ren (K := lin m) (fun b hb hn ho => ⟨rfl, hw2 b hb hn ho⟩) (fun k hk hd => ?_) hx
  obtain ⟨r1, r2⟩ := hρ k hk
  refine ⟨?_, ?_⟩
  ·have : lin m' k = true := by rw [hdom]; exact hk
   obtain ⟨cs, hc⟩ := q3o this
   exact qax (show q1w s.M L σ m' (ρ k) = some (.cells cs) by simp only [q1w, r1, if_true, r2, hc])
  ·show G.β (ρ k) = G'.β k
   rw [hβ k hk]
 cases out with
 | ret x =>
  obtain ⟨rfl, hV⟩ := hout
  exact hR.2 v' w' G1 hA1 hR1 (hres x hR.1 hV)
 | pan x =>
  obtain ⟨rfl, hV⟩ := hout
  exact hR.2 v' w' G1 hA1 hR1 (hres x hR.1 hV)
def CallsM (P : Program) (s : AS) (op : Op) (L : Nat → Bool) (out : Out) (M' : Mem) : Prop :=
 ∃ x args ts f caps m m' ρ σ out0, op = .call ⟨.value x, args, ts⟩ ∧ ev s.T x = .fn f caps ∧
  (∀ j, L j = true → lin m (σ j) = true ∧ ρ (σ j) = j) ∧ (∀ k, lin m k = true → L (ρ k) = true ∧ σ (ρ k) = k) ∧
  (∀ k cs, q3v m k = some (.cells cs) → s.M (ρ k) = some (.cells cs)) ∧ (∀ p ∈ m, ∀ x ∈ p.2, q0j x = true) ∧ (∀ p ∈ m', ∀ x ∈ p.2, q0j x = true) ∧
  q7t L (evs s.T args.toList ++ caps) = true ∧ EvM P f (q79 σ (evs s.T args.toList ++ caps)) m out0 m' ∧ M' = q1w s.M L σ m' ∧
  (match out0 with | .ret y => y.kin (lin m) = true ∧ out = .ret (y.ren ρ) | .pan y => y.kin (lin m) = true ∧ out = .pan (y.ren ρ))
theorem CallsM.wp {P : Program} {n : Nat} {B : Nat → Prop} {G : Gh} {s : AS} {a : Act} {w : World} (h : Rel n B G s a w) {o : Oper} {L : Nat → Bool} {out : Out} {M' : Mem} {K : Act → World → Prop} {Q : Exit → Act → World → Prop}
 (hr : match out with
  | .ret v => ∀ v' w' G', Adv G w G' w' → Rel n B G' ⟨s.T, M'⟩ a w' → VR (Dm M') G' B w' v v' → K (a.put o.dst v') w'
  | .pan v => ∀ v' w' G', Adv G w G' w' → Rel n B G' ⟨s.T, M'⟩ a w' → VR (Dm M') G' B w' v v' → Q (.panic [{ v := v', recovered := false }]) a w')
 (hc : CallsM P s o.op L out M') : o.wp P a w K Q := by
 obtain ⟨x, args, ts, f, caps, m, m', ρ, σ, out0, hop, hf, hL, hρ, hm, hst, hst', hk, he, rfl, ho⟩ := hc
 obtain ⟨fn, hfn, hnm, hbd⟩ := he.1.ok
 have hx := h.ev x
 rw [hf] at hx
 generalize hxv : a.eval x = xv at hx
 cases hx with
 | fn _ _ vs hl hh =>
  have hrun : (execOp a.eval o).run P w = .ok (.enter f (args.map a.eval ++ vs)) w := by
   unfold execOp
   rw [hop]
   have h1 : (fn.name = "runtime.NumGoroutine") = False := by simpa using hnm
   have h2 : (fn.body = none) = False := by simp only [eq_iff_iff, iff_false]; intro hn; rw [hn] at hbd; simp at hbd
   simp [resolve, hxv, Deferred.ofValue, invoke, callFunc, hfn, h1, h2]
  unfold Oper.wp
  rw [hrun]
  simp only [Oper.upon]
  obtain ⟨q1, q2⟩ := q9k h args
  refine callM_ok h (args := evs s.T args.toList ++ caps) (by simp [q1, hl]) (fun i y u hy hu => ?_) hL hρ hm hst hst' hk rfl ?_ he
  ·rcases Nat.lt_or_ge i (evs s.T args.toList).length with hlt | hge
   ·rw [List.getElem?_append_left hlt] at hy
    rw [Array.getElem?_append_left (by rw [q1]; exact hlt)] at hu
    obtain ⟨u', hu', hr'⟩ := q2 i y hy
    rw [hu] at hu'
    exact (Option.some.inj hu') ▸ hr'
   ·rw [List.getElem?_append_right hge] at hy
    rw [Array.getElem?_append_right (by rw [q1]; exact hge), q1] at hu
    exact hh _ y u hy hu
  ·cases out0 with
   | ret y => obtain ⟨h1, rfl⟩ := ho; exact ⟨h1, fun v' w' G' hA hR' hV => hr v' w' G' hA hR' hV⟩
   | pan y => obtain ⟨h1, rfl⟩ := ho; exact ⟨h1, fun v' w' G' hA hR' hV => hr v' w' G' hA hR' hV⟩

section
section
variable {P : Program} {TE : TyE} {EQ : TypeId → Bool} {RK : Option (List Nat × (Nat → Bool))}
def CallsN (P : Program) (s : AS) (o : Oper) (e : Nat) (v : AVal) (blk : ABlk) : Prop :=
 ∃ x args ts f caps, o.op = .call ⟨.value x, args, ts⟩ ∧ ev s.T x = .fn f caps ∧ q0i ((evs s.T args.toList ++ caps).map (fz (fun _ => false) s.M)) = true ∧ MakesB P f ((evs s.T args.toList ++ caps).map (fz (fun _ => false) s.M)) e v blk
def NewK (P : Program) (RK : Option (List Nat × (Nat → Bool))) (ops : Array Oper) (s : AS) (o : Oper) (v : AVal) (e : Nat) (blk : ABlk) : Prop :=
 qa2 ops o s.T = some true ∧ RK = none ∧ o.dst = some e ∧ s.M e = none ∧ CallsN P s o e v blk
def MutO (P : Program) (RK : Option (List Nat × (Nat → Bool))) (ops : Array Oper) (s : AS) (o : Oper) (out : Out) (M' : Mem) : Prop :=
 qa2 ops o s.T = some true ∧ ∃ ws K L, RK = some (ws, K) ∧ qaa ws o.dst o.op = .m ∧ (∀ j, L j = true → q5s j = true ∧ K j = false) ∧ CallsM P s o.op L out M'
def YN (P : Program) (TE : TyE) (EQ : TypeId → Bool) (RK : Option (List Nat × (Nat → Bool))) (ops : Array Oper) (s : AS) (o : Oper) (v : AVal) (M' : Mem) : Prop :=
 YA P TE EQ RK ops s o v M' ∨ (∃ e blk, NewK P RK ops s o v e blk ∧ M' = upd s.M e (some blk)) ∨ MutO P RK ops s o (.ret v) M'
theorem MutO.cls {ops : Array Oper} {s : AS} {o : Oper} {out : Out} {M' : Mem} (h : MutO P RK ops s o out M') : q7q (RK.map (·.1)) o.dst o.op = .m := by
 obtain ⟨_, ws, K, L, rfl, hc, _⟩ := h
 exact hc
theorem MutO.congr {ops : Array Oper} {o : Oper} {T T' : q12} {M M' : Mem} {out : Out} (h : Looks ops o T T') (hn : MutO P RK ops ⟨T, M⟩ o out M') : MutO P RK ops ⟨T', M⟩ o out M' := by
 obtain ⟨h1, ws, K, L, h2, h3, h4, x, args, ts, f, caps, m, m', ρ, σ, out0, ho, hf, hL, hρ, hm, hst, hst', hk, he, hM, hout⟩ := hn
 have ha : evs T args.toList = evs T' args.toList := q6g fun y hy => h.ev (by rw [ho]; simp [Op.operands, Call.operands]; exact .inr (by simpa using hy))
 have hx : ev T x = ev T' x := h.ev (by rw [ho]; simp [Op.operands, Call.operands])
 refine ⟨by rw [← h.want]; exact h1, ws, K, L, h2, h3, h4, x, args, ts, f, caps, m, m', ρ, σ, out0, ho, ?_, hL, hρ, hm, hst, hst', ?_, ?_, hM, hout⟩
 ·simp only at hf ⊢; rw [← hx]; exact hf
 ·simp only at hk ⊢; rw [← ha]; exact hk
 ·simp only at he ⊢; rw [← ha]; exact he
theorem MutO.move {ops : Array Oper} {o : Oper} {T : q12} {M M1 M' : Mem} {out : Out} (hM1 : ∀ k, q5s k = true → M1 k = M k) (hn : MutO P RK ops ⟨T, M⟩ o out M') : MutO P RK ops ⟨T, M1⟩ o out (q7b M' M1) := by
 obtain ⟨h1, ws, K, L, h2, h3, h4, x, args, ts, f, caps, m, m', ρ, σ, out0, ho, hf, hL, hρ, hm, hst, hst', hk, he, rfl, hout⟩ := hn
 refine ⟨h1, ws, K, L, h2, h3, h4, x, args, ts, f, caps, m, m', ρ, σ, out0, ho, hf, hL, hρ, fun k cs hc => ?_, hst, hst', hk, he, ?_, hout⟩
 ·have hl : lin m k = true := by unfold lin; rw [hc]; rfl
  simp only
  rw [hM1 _ (h4 _ (hρ k hl).1).1]
  exact hm k cs hc
 ·funext k
  unfold q7b q1w
  cases hl : L k with
  | true => simp only [if_true, (h4 k hl).1]
  | false =>
   simp only [Bool.false_eq_true, if_false]
   cases hb : q5s k with
   | true => simp only [if_true]; exact (hM1 k hb).symm
   | false => simp
theorem MutO.low {ops : Array Oper} {o : Oper} {s : AS} {M' : Mem} {out : Out} (hn : MutO P RK ops s o out M') {k : Nat} (hk : q5s k = false) : M' k = s.M k := by
 obtain ⟨h1, ws, K, L, h2, h3, h4, x, args, ts, f, caps, m, m', ρ, σ, out0, ho, hf, hL, hρ, hm, hst, hst', hki, he, rfl, hout⟩ := hn
 have : L k = false := by
  cases hl : L k with
  | false => rfl
  | true => rw [(h4 k hl).1] at hk; cases hk
 simp only [q1w, this, Bool.false_eq_true, if_false]
theorem MutO.seen {ws : List Nat} {K : Nat → Bool} {ops : Array Oper} {o : Oper} {s : AS} {M' : Mem} {out : Out} (hn : MutO P (some (ws, K)) ops s o out M') {k : Nat} (hk : K k = true) : M' k = s.M k := by
 obtain ⟨h1, ws, K, L, h2, h3, h4, x, args, ts, f, caps, m, m', ρ, σ, out0, ho, hf, hL, hρ, hm, hst, hst', hki, he, rfl, hout⟩ := hn
 cases h2
 have : L k = false := by
  cases hl : L k with
  | false => rfl
  | true => rw [(h4 k hl).2] at hk; cases hk
 simp only [q1w, this, Bool.false_eq_true, if_false]
theorem NewK.cls {ops : Array Oper} {s : AS} {o : Oper} {v : AVal} {e : Nat} {blk : ABlk} (h : NewK P RK ops s o v e blk) : q7q (RK.map (·.1)) o.dst o.op = .r := by
 obtain ⟨_, rfl, _, _, x, args, ts, f, caps, ho, _⟩ := h
 rw [ho]
 rfl
theorem NewK.congr {ops : Array Oper} {o : Oper} {T T' : q12} {M : Mem} {v : AVal} {e : Nat} {blk : ABlk} (h : Looks ops o T T') (hn : NewK P RK ops ⟨T, M⟩ o v e blk) : NewK P RK ops ⟨T', M⟩ o v e blk := by
 obtain ⟨h1, h2, h3, h4, x, args, ts, f, caps, ho, hf, hs, he⟩ := hn
 have ha : evs T args.toList = evs T' args.toList := q6g fun y hy => h.ev (by rw [ho]; simp [Op.operands, Call.operands]; exact .inr (by simpa using hy))
 have hx : ev T x = ev T' x := h.ev (by rw [ho]; simp [Op.operands, Call.operands])
 refine ⟨by rw [← h.want]; exact h1, h2, h3, h4, x, args, ts, f, caps, ho, ?_, ?_, ?_⟩
 ·simp only at hf ⊢; rw [← hx]; exact hf
 ·simp only at hs ⊢; rw [← ha]; exact hs
 ·simp only at he ⊢; rw [← ha]; exact he
theorem z13 {n : Nat} {T : q12} {M : Mem} (hi : Inh n ⟨T, M⟩) {d : Nat} (hd : M d = none) (b : Option ABlk) {x : Operand} {f : FuncId} {caps : List AVal} (hf : ev T x = .fn f caps) (l : List Operand) :
 (evs T l ++ caps).map (fz (fun _ => false) (upd M d b)) = (evs T l ++ caps).map (fz (fun _ => false) M) := by
 refine List.map_congr_left fun y hy => zda hi.mlv hd b _ ?_
 rcases List.mem_append.1 hy with hy | hy
 ·obtain ⟨z, _, rfl⟩ := List.mem_map.1 hy
  exact hi.lvs z
 ·obtain ⟨_, _, _, _, hr⟩ := hi
  have hv := hr.ev x
  simp only at hv
  rw [hf] at hv
  exact VR.caps_lvs hv y hy
theorem NewK.frame {ops : Array Oper} {n : Nat} {T : q12} {M : Mem} {o : Oper} {v : AVal} {e : Nat} {blk : ABlk} (hi : Inh n ⟨T, M⟩) {d : Nat} (hd : M d = none) (hne : e ≠ d) (b : Option ABlk) (hn : NewK P RK ops ⟨T, M⟩ o v e blk) : NewK P RK ops ⟨T, upd M d b⟩ o v e blk := by
 obtain ⟨h1, h2, h3, h4, x, args, ts, f, caps, ho, hf, hs, he⟩ := hn
 simp only at hf hs he h4
 have hl := z13 hi hd b hf args.toList
 refine ⟨h1, h2, h3, ?_, x, args, ts, f, caps, ho, hf, ?_, ?_⟩
 ·simp only; rw [q0h _ _ hne]; exact h4
 ·simp only; rw [hl]; exact hs
 ·simp only; rw [hl]; exact he
theorem NewK.unframe {ops : Array Oper} {n : Nat} {T : q12} {M : Mem} {o : Oper} {v : AVal} {e : Nat} {blk : ABlk} (hi : Inh n ⟨T, M⟩) {d : Nat} (hd : M d = none) (hne : e ≠ d) (b : Option ABlk) (hn : NewK P RK ops ⟨T, upd M d b⟩ o v e blk) : NewK P RK ops ⟨T, M⟩ o v e blk := by
 obtain ⟨h1, h2, h3, h4, x, args, ts, f, caps, ho, hf, hs, he⟩ := hn
 simp only at hf hs he h4
 have hl := z13 hi hd b hf args.toList
 rw [hl] at hs he
 rw [q0h _ _ hne] at h4
 exact ⟨h1, h2, h3, h4, x, args, ts, f, caps, ho, hf, hs, he⟩
theorem YN.congr {ops : Array Oper} {o : Oper} {T T' : q12} {M M' : Mem} {v : AVal} (h : Looks ops o T T') (hy : YN P TE EQ RK ops ⟨T, M⟩ o v M') : YN P TE EQ RK ops ⟨T', M⟩ o v M' := by
 rcases hy with hy | ⟨e, blk, hn, hM⟩ | hn
 ·exact .inl (hy.congr h)
 ·exact .inr (.inl ⟨e, blk, hn.congr h, hM⟩)
 ·exact .inr (.inr (hn.congr h))
theorem YN.swap {ops : Array Oper} {oi oj : Oper} (hap : qba (RK.map (·.1)) ops oi oj = true) {n : Nat} {T : q12} {M Mi Mij : Mem} {vi vj : AVal} (hi : Inh n ⟨T, M⟩)
 (h1 : YN P TE EQ RK ops ⟨T, M⟩ oi vi Mi) (h2 : YN P TE EQ RK ops (AS.put ⟨T, Mi⟩ oi.dst vi) oj vj Mij) :
 ∃ Mj, YN P TE EQ RK ops ⟨T, M⟩ oj vj Mj ∧ YN P TE EQ RK ops (AS.put ⟨T, Mj⟩ oj.dst vj) oi vi Mij := by
 have hap0 := hap
 simp only [qba, Bool.and_eq_true] at hap
 obtain ⟨hap, hok⟩ := hap
 obtain ⟨a1, a2, a3⟩ := Oper.apart_spec hap
 have e2 : YN P TE EQ RK ops ⟨T, Mi⟩ oj vj Mij := by
  rw [AS.put_eq T Mi NoM] at h2
  exact YN.congr (Looks.put (M' := NoM) a1).symm h2
 have back : ∀ Mj, YN P TE EQ RK ops ⟨T, Mj⟩ oi vi Mij → YN P TE EQ RK ops (AS.put ⟨T, Mj⟩ oj.dst vj) oi vi Mij := fun Mj h => by
  rw [AS.put_eq T Mj NoM]
  exact YN.congr (Looks.put (M := NoM) (M' := NoM) a3) h
 rcases h1 with h1 | ⟨e, blk, n1, rfl⟩ | n1
 ·rcases e2 with e2 | ⟨e, blk, n2, rfl⟩ | n2
  ·have h2' : YA P TE EQ RK ops (AS.put ⟨T, Mi⟩ oi.dst vi) oj vj Mij := by
    rw [AS.put_eq T Mi NoM]
    exact YA.congr (Looks.put (M' := NoM) a1) e2
   obtain ⟨Mj, q1, q2⟩ := YA.swap hap0 hi h1 h2'
   exact ⟨Mj, .inl q1, .inl q2⟩
  ·have cj := n2.cls
   have hrk : RK = none := n2.2.1
   have hdst : oj.dst = some e := n2.2.2.1
   cases ci : q7q (RK.map (·.1)) oi.dst oi.op <;> simp only [ci, cj, q8d, Bool.false_eq_true] at hok
   case q =>
    obtain ⟨rfl, q1⟩ := h1.quiet (q15 ci (by simp))
    exact ⟨_, .inr (.inl ⟨e, blk, n2, rfl⟩), back _ (.inl (q1 _))⟩
   case r =>
    obtain rfl := h1.reads ci
    exact ⟨_, .inr (.inl ⟨e, blk, n2, rfl⟩), back _ (.inl (h1.frame hi ci n2.2.2.2.1 _).2)⟩
   case a =>
    rcases h1.makes (q15 ci (by simp)) with ⟨rfl, q1⟩ | ⟨d, b, b1, b2, rfl, b4⟩
    ·exact ⟨_, .inr (.inl ⟨e, blk, n2, rfl⟩), back _ (.inl (q1 _))⟩
    ·have hne : e ≠ d := fun he => a2 d b1 (by rw [hdst, he])
     have n3 := n2.unframe hi b2 hne _
     refine ⟨_, .inr (.inl ⟨e, blk, n3, rfl⟩), back _ (.inl ?_)⟩
     have := b4 (upd M e (some blk)) (by rw [q0h _ _ (Ne.symm hne)]; exact b2)
     simp only
     rw [q7w M _ _ hne]
     exact this
   case w | m => subst hrk; simp at hok
  ·have cj := n2.cls
   cases RK with
   | none => obtain ⟨_, _, _, _, h, _⟩ := n2; cases h
   | some wK =>
    obtain ⟨ws, K⟩ := wK
    have cj' : q7q (some ws) oj.dst oj.op = .m := cj
    cases ci : q7q (some ws) oi.dst oi.op <;> simp only [Option.map_some, ci, cj', q8d, Bool.false_eq_true] at hok
    case q =>
     obtain ⟨rfl, q1⟩ := h1.quiet (q15 ci (by simp))
     exact ⟨_, .inr (.inr n2), back _ (.inl (q1 _))⟩
    case r =>
     obtain rfl := YA.reads (RK := some (ws, K)) ci h1
     exact ⟨_, .inr (.inr n2), back _ (.inl (h1.rkeep ci fun k hk => n2.seen hk))⟩
    case w =>
     obtain ⟨b1, -⟩ := h1.wmove (M1 := M) ci (fun _ _ => rfl)
     have n3 := n2.move (M1 := M) (fun k hk => (b1 k hk).symm)
     refine ⟨_, .inr (.inr n3), back _ (.inl ?_)⟩
     have h3 := (h1.wmove (M1 := q7b Mij M) ci (fun k hk => by unfold q7b; rw [if_neg (by rw [hk]; simp)])).2
     have e : q7b (q7b Mij M) Mi = Mij := by
      funext k
      unfold q7b
      cases hb : q5s k with
      | true => simp
      | false => simp only [Bool.false_eq_true, if_false]; exact (n2.low hb).symm
     rw [e] at h3
     exact h3
    case a =>
     obtain ⟨b1, -⟩ := h1.amove (M1 := M) ci (fun _ _ => rfl)
     have n3 := n2.move (M1 := M) (fun k hk => (b1 k hk).symm)
     refine ⟨_, .inr (.inr n3), back _ (.inl ?_)⟩
     have h3 := (h1.amove (M1 := q7b Mij M) ci (fun k hk => by unfold q7b; rw [if_neg (by rw [hk]; simp)])).2
     have e : q7b (q7b Mij M) Mi = Mij := by
      funext k
      unfold q7b
      cases hb : q5s k with
      | true => simp
      | false => simp only [Bool.false_eq_true, if_false]; exact (n2.low hb).symm
     rw [e] at h3
     exact h3
 ·have ci := n1.cls
  have hrk : RK = none := n1.2.1
  have hdst : oi.dst = some e := n1.2.2.1
  have hfree : M e = none := n1.2.2.2.1
  rcases e2 with e2 | ⟨e', blk', n2, rfl⟩ | n2
  ·cases cj : q7q (RK.map (·.1)) oj.dst oj.op <;> simp only [ci, cj, q8d, Bool.false_eq_true] at hok
   case q =>
    obtain ⟨rfl, q1⟩ := e2.quiet (q15 cj (by simp))
    exact ⟨M, .inl (q1 _), back _ (.inr (.inl ⟨e, blk, n1, rfl⟩))⟩
   case r =>
    obtain ⟨rfl, f2⟩ := e2.unframe hi cj hfree _
    exact ⟨M, .inl f2, back _ (.inr (.inl ⟨e, blk, n1, rfl⟩))⟩
   case a =>
    rcases e2.makes (q15 cj (by simp)) with ⟨rfl, q1⟩ | ⟨d, b, b1, b2, rfl, b4⟩
    ·exact ⟨M, .inl (q1 _), back _ (.inr (.inl ⟨e, blk, n1, rfl⟩))⟩
    ·have hne : e ≠ d := fun he => a2 e hdst (by rw [b1, he])
     simp only at b2
     rw [q0h _ _ (Ne.symm hne)] at b2
     refine ⟨_, .inl (b4 M b2), back _ (.inr (.inl ⟨e, blk, n1.frame hi b2 hne _, ?_⟩))⟩
     exact q7w M _ _ (Ne.symm hne)
   case w | m => subst hrk; simp at hok
  ·have hdst' : oj.dst = some e' := n2.2.2.1
   have hne : e ≠ e' := fun he => a2 e hdst (by rw [hdst', he])
   have n3 := n2.unframe hi hfree (Ne.symm hne) _
   refine ⟨_, .inr (.inl ⟨e', blk', n3, rfl⟩), back _ (.inr (.inl ⟨e, blk, n1.frame hi n3.2.2.2.1 hne _, ?_⟩))⟩
   exact q7w M _ _ (Ne.symm hne)
  ·obtain ⟨_, ws, K, L, h2, _⟩ := n2
   rw [hrk] at h2
   cases h2
 ·have ci := n1.cls
  cases RK with
  | none => obtain ⟨_, _, _, _, h, _⟩ := n1; cases h
  | some wK =>
   obtain ⟨ws, K⟩ := wK
   have ci' : q7q (some ws) oi.dst oi.op = .m := ci
   rcases e2 with e2 | ⟨e', blk', n2, rfl⟩ | n2
   ·cases cj : q7q (some ws) oj.dst oj.op <;> simp only [Option.map_some, ci', cj, q8d, Bool.false_eq_true] at hok
    case q =>
     obtain ⟨rfl, q1⟩ := e2.quiet (q15 cj (by simp))
     exact ⟨M, .inl (q1 _), back _ (.inr (.inr n1))⟩
    case r =>
     have hr := e2.rkeep cj (fun k hk => (n1.seen hk).symm)
     obtain rfl := YA.reads (RK := some (ws, K)) cj e2
     exact ⟨M, .inl hr, back _ (.inr (.inr n1))⟩
    case w =>
     have hlow : ∀ k, q5s k = false → M k = Mi k := fun k hk => (n1.low hk).symm
     obtain ⟨b1, b2⟩ := e2.wmove (M1 := M) cj hlow
     have n3 := n1.move (M1 := q7b M Mij) (fun k hk => by unfold q7b; rw [if_pos hk])
     refine ⟨_, .inl b2, back _ (.inr (.inr ?_))⟩
     have e : q7b Mi (q7b M Mij) = Mij := by
      funext k
      unfold q7b
      cases hb : q5s k with
      | true => simp only [if_true]; exact (b1 k hb).symm
      | false => simp
     rw [e] at n3
     exact n3
    case a =>
     have hlow : ∀ k, q5s k = false → M k = Mi k := fun k hk => (n1.low hk).symm
     obtain ⟨b1, b2⟩ := e2.amove (M1 := M) cj hlow
     have n3 := n1.move (M1 := q7b M Mij) (fun k hk => by unfold q7b; rw [if_pos hk])
     refine ⟨_, .inl b2, back _ (.inr (.inr ?_))⟩
     have e : q7b Mi (q7b M Mij) = Mij := by
      funext k
      unfold q7b
      cases hb : q5s k with
      | true => simp only [if_true]; exact (b1 k hb).symm
      | false => simp
     rw [e] at n3
     exact n3
   ·exact absurd n2.2.1 (by simp)
   ·have cj' : q7q (some ws) oj.dst oj.op = .m := n2.cls
    simp only [Option.map_some, ci', cj', q8d, Bool.false_eq_true] at hok
theorem YN.swapP {ops : Array Oper} {oi oj : Oper} (hap : qba (RK.map (·.1)) ops oi oj = true) {T : q12} {M Mi M' : Mem} {vi : AVal} {out : Out}
 (h1 : YN P TE EQ RK ops ⟨T, M⟩ oi vi Mi) (h2 : MutO P RK ops (AS.put ⟨T, Mi⟩ oi.dst vi) oj out M') :
 ∃ M'', MutO P RK ops ⟨T, M⟩ oj out M'' ∧ ∀ k, q5s k = true → M'' k = M' k := by
 simp only [qba, Bool.and_eq_true] at hap
 obtain ⟨hap, hok⟩ := hap
 obtain ⟨a1, a2, a3⟩ := Oper.apart_spec hap
 have n2 : MutO P RK ops ⟨T, Mi⟩ oj out M' := by
  rw [AS.put_eq T Mi NoM] at h2
  exact MutO.congr (Looks.put (M' := NoM) a1).symm h2
 have cj := n2.cls
 cases RK with
 | none => obtain ⟨_, _, _, _, h, _⟩ := n2; cases h
 | some wK =>
  obtain ⟨ws, K⟩ := wK
  have cj' : q7q (some ws) oj.dst oj.op = .m := cj
  have hb : ∀ k, q5s k = true → Mi k = M k := by
   rcases h1 with h1 | ⟨e, blk, n1, rfl⟩ | n1
   ·cases ci : q7q (some ws) oi.dst oi.op <;> simp only [Option.map_some, ci, cj', q8d, Bool.false_eq_true] at hok
    case q => obtain ⟨rfl, q1⟩ := h1.quiet (q15 ci (by simp)); exact fun _ _ => rfl
    case r => obtain rfl := YA.reads (RK := some (ws, K)) ci h1; exact fun _ _ => rfl
    case w => exact (h1.wmove (M1 := M) ci (fun _ _ => rfl)).1
    case a => exact (h1.amove (M1 := M) ci (fun _ _ => rfl)).1
   ·exact absurd n1.2.1 (by simp)
   ·have ci' : q7q (some ws) oi.dst oi.op = .m := n1.cls
    simp only [Option.map_some, ci', cj', q8d, Bool.false_eq_true] at hok
  refine ⟨_, n2.move (M1 := M) (fun k hk => (hb k hk).symm), fun k hk => ?_⟩
  unfold q7b
  rw [if_pos hk]
theorem CallsN.wp {s : AS} {o : Oper} {v : AVal} {blk : ABlk} {n : Nat} {B : Nat → Prop} {G : Gh} {a : Act} {w : World} (h : Rel n B G s a w) {k : Nat} (hk : s.M k = none)
 {K : Act → World → Prop} {Q : Exit → Act → World → Prop}
 (hr : ∀ v' w' G', Adv G w G' w' → Rel n B G' ⟨s.T, upd s.M k (some blk)⟩ a w' → VR (Dm (upd s.M k (some blk))) G' B w' v v' → K (a.put o.dst v') w') (hc : CallsN P s o k v blk) :
 o.wp P a w K Q := by
 obtain ⟨x, args, ts, f, caps, ho, hf, hst, he⟩ := hc
 obtain ⟨fn, hfn, hnm, hbd⟩ := he.ok.ok
 have hx := h.ev x
 rw [hf] at hx
 generalize hxv : a.eval x = xv at hx
 cases hx with
 | fn _ _ vs hl hh =>
  have hrun : (execOp a.eval o).run P w = .ok (.enter f (args.map a.eval ++ vs)) w := by
   unfold execOp
   rw [ho]
   have h1 : (fn.name = "runtime.NumGoroutine") = False := by simpa using hnm
   have h2 : (fn.body = none) = False := by simp only [eq_iff_iff, iff_false]; intro hn; rw [hn] at hbd; simp at hbd
   simp [resolve, hxv, Deferred.ofValue, invoke, callFunc, hfn, h1, h2]
  unfold Oper.wp
  rw [hrun]
  simp only [Oper.upon]
  obtain ⟨q1, q2⟩ := q9k h args
  refine qm3 h (args := evs s.T args.toList ++ caps) (by simp [q1, hl]) (fun i y u hy hu => ?_) hst he hk hr
  rcases Nat.lt_or_ge i (evs s.T args.toList).length with hlt | hge
  ·rw [List.getElem?_append_left hlt] at hy
   rw [Array.getElem?_append_left (by rw [q1]; exact hlt)] at hu
   obtain ⟨u', hu', hr'⟩ := q2 i y hy
   rw [hu] at hu'
   exact (Option.some.inj hu') ▸ hr'
  ·rw [List.getElem?_append_right hge] at hy
   rw [Array.getElem?_append_right (by rw [q1]; exact hge), q1] at hu
   exact hh _ y u hy hu
theorem YN.sound {ops : Array Oper} (hT : q2r P TE) (hE : ∀ t, EQ t = true → EqOk P t) {n : Nat} {B : Nat → Prop} {G : Gh} {s : AS} {a : Act} {w : World} (h : Rel n B G s a w) {o : Oper} {v : AVal} {M' : Mem}
 (hd : ∀ t, o.dst = some t → t < n) (hy : YN P TE EQ RK ops s o v M') {K : Act → World → Prop} {Q : Exit → Act → World → Prop}
 (hK : ∀ a' w' G', Adv G w G' w' → Rel n B G' (AS.put ⟨s.T, M'⟩ o.dst v) a' w' → K a' w') :
 if Region.wanted o (yielded ops a.tmps) = true then o.wp P a w K Q else K (a.put o.dst undef) w := by
 rcases hy with hy | ⟨e, blk, ⟨hw, _, _, hf, hc⟩, rfl⟩ | ⟨hw, ws, Kk, L, _, _, _, hc⟩
 ·exact YA.sound hT hE h hd hy hK
 ·rw [if_pos (q5c h hw)]
  exact CallsN.wp h hf (fun v' w' G' hA hR hV => hK _ _ G' hA (hR.put hd hV)) hc
 ·rw [if_pos (q5c h hw)]
  exact CallsM.wp (out := .ret v) h (fun v' w' G' hA hR hV => hK _ _ G' hA (hR.put hd hV)) hc
theorem YN.inh {ops : Array Oper} (hT : q2r P TE) (hE : ∀ t, EQ t = true → EqOk P t) {n : Nat} {s : AS} (h : Inh n s) {o : Oper} {v : AVal} {M' : Mem}
 (hd : ∀ t, o.dst = some t → t < n) (hy : YN P TE EQ RK ops s o v M') : Inh n (AS.put ⟨s.T, M'⟩ o.dst v) := by
 obtain ⟨B, G, a, w, h⟩ := h
 have := YN.sound (Q := fun _ _ _ => False) (K := fun a' w' => ∃ G', Rel n B G' (AS.put ⟨s.T, M'⟩ o.dst v) a' w') hT hE h hd hy (fun a' w' G' _ hR => ⟨G', hR⟩)
 split at this
 ·obtain ⟨a', w', G', hR⟩ := qgf this
  exact ⟨B, G', a', w', hR⟩
 ·obtain ⟨G', hR⟩ := this
  exact ⟨B, G', _, _, hR⟩
end
end
section
section
variable {P : Program} {TE : TyE} {EQ : TypeId → Bool} {RK : Option (List Nat × (Nat → Bool))} {ops : Array Oper}
def PanD (Qp : AVal → AS → Prop) (v : AVal) (M' : Mem) : Prop := ∀ s', (∀ k, q5s k = true → s'.M k = M' k) → Qp v s'
def opK (P : Program) (TE : TyE) (EQ : TypeId → Bool) (RK : Option (List Nat × (Nat → Bool))) (ops : Array Oper) (i : Nat) (K : AS → Prop) (Qp : AVal → AS → Prop) (s : AS) : Prop :=
 match ops[i]? with
 | none => K s
 | some o => (∃ v M', YN P TE EQ RK ops s o v M' ∧ K (AS.put ⟨s.T, M'⟩ o.dst v)) ∨ ∃ v M', MutO P RK ops s o (.pan v) M' ∧ PanD Qp v M'
def anyA (P : Program) (TE : TyE) (EQ : TypeId → Bool) (RK : Option (List Nat × (Nat → Bool))) (ops : Array Oper) (Q : AS → Prop) (Qp : AVal → AS → Prop) : Nat → Array Bool → AS → Prop
 | 0, listed, s => Region.ready .any ops listed = [] ∧ Q s
 | fuel + 1, listed, s =>
  (Region.ready .any ops listed = [] → Q s) ∧
  ∀ i ∈ Region.ready .any ops listed, opK P TE EQ RK ops i (anyA P TE EQ RK ops Q Qp fuel (listed.setIfInBounds i true)) Qp s
def qoa (n : Nat) (ops : Array Oper) : Prop := ∀ (i : Nat) (o : Oper), ops[i]? = some o → ∀ t, o.dst = some t → t < n
def aft (ops : Array Oper) (i : Nat) : Nat → Nat → Bool
 | 0, _ => false
 | n + 1, j => match ops[j]? with
  | some o => o.after.any fun e => Region.binds .any e && (e.on == i || aft ops i n e.on)
  | none => false
def q9i (ops : Array Oper) (listed : Array Bool) : Prop :=
 ∀ (j : Nat) (o : Oper), ops[j]? = some o → listed.getD j false = true → ∀ e ∈ o.after, Region.binds .any e = true → listed.getD e.on false = true
theorem q9l {listed : Array Bool} (hc : q9i ops listed) {i : Nat} : ∀ (n j : Nat) (o : Oper), ops[j]? = some o → (∀ e ∈ o.after, Region.binds .any e = true → listed.getD e.on false = true) → aft ops i n j = true → listed.getD i false = true
 | 0, j, o, _, _, h => by simp [aft] at h
 | n + 1, j, o, ho, ha, h => by
  simp only [aft, ho] at h
  obtain ⟨e, he, hb⟩ := Array.any_eq_true'.1 h
  simp only [Bool.and_eq_true, Bool.or_eq_true, beq_iff_eq] at hb
  have hl := ha e he hb.1
  rcases hb.2 with h1 | h1
  ·rw [← h1]; exact hl
  ·cases hq : ops[e.on]? with
   | none => cases n <;> simp [aft, hq] at h1
   | some q => exact q9l hc n e.on q hq (hc e.on q hq hl) h1
theorem qck {listed : Array Bool} (hc : q9i ops listed) {j : Nat} {o : Oper} (ho : ops[j]? = some o) (ha : ∀ e ∈ o.after, Region.binds .any e = true → listed.getD e.on false = true) : q9i ops (listed.setIfInBounds j true) := by
 intro k q hq hk e he hb
 by_cases hkj : j = k
 ·subst hkj
  rw [ho] at hq
  cases hq
  exact getD_set_true (ha e he hb)
 ·rw [getD_set_ne false hkj] at hk
  exact getD_set_true (hc k q hq hk e he hb)
theorem z2m (hT : q2r P TE) (hE : ∀ t, EQ t = true → EqOk P t) {n : Nat} (hn : qoa n ops) {Q : AS → Prop} {Qp : AVal → AS → Prop} {i : Nat} {oi : Oper} {v : AVal} (hi : ops[i]? = some oi) :
 ∀ (fuel : Nat) (listed : Array Bool) (T : q12) (M M' : Mem),
  (∀ j oj, ops[j]? = some oj → j ≠ i → listed.getD j true = false → aft ops i 2 j = false → qba (RK.map (·.1)) ops oi oj = true) → q9i ops listed →
  i ∈ Region.ready .any ops listed → Inh n ⟨T, M⟩ → YN P TE EQ RK ops ⟨T, M⟩ oi v M' →
  anyA P TE EQ RK ops Q Qp fuel (listed.setIfInBounds i true) (AS.put ⟨T, M'⟩ oi.dst v) → anyA P TE EQ RK ops Q Qp (fuel + 1) listed ⟨T, M⟩ := by
 intro fuel
 induction fuel with
 | zero =>
  intro listed T M M' _ hcl hr hI hy H
  refine ⟨fun h => (by rw [h] at hr; cases hr), fun j hj => ?_⟩
  by_cases hji : j = i
  ·subst hji; unfold opK; simp only [hi]; exact .inl ⟨v, M', hy, H⟩
  ·have := ready_mono hj hji
   rw [H.1] at this
   cases this
 | succ fuel ih =>
  intro listed T M M' hfree hcl hr hI hy H
  refine ⟨fun h => (by rw [h] at hr; cases hr), fun j hj => ?_⟩
  by_cases hji : j = i
  ·subst hji; unfold opK; simp only [hi]; exact .inl ⟨v, M', hy, H⟩
  ·have h1 := H.2 j (ready_mono hj hji)
   obtain ⟨hjun, oj, hoj, hall⟩ := mem_ready.1 hj
   have hnot : aft ops i 2 j = false := by
    cases hq : aft ops i 2 j with
    | false => rfl
    | true =>
     have h1 := q9l hcl 2 j oj hoj hall hq
     have h0 := (mem_ready.1 hr).1
     rcases Nat.lt_or_ge i listed.size with h' | h'
     ·simp [h'] at h0 h1; rw [h0] at h1; cases h1
     ·simp [Array.getElem?_eq_none h'] at h1
   have hsw := hfree j oj hoj hji hjun hnot
   unfold opK at h1 ⊢
   simp only [hoj] at h1 ⊢
   rcases h1 with ⟨vj, Mij, hyj, hK⟩ | ⟨vj, Mij, hyj, hK⟩
   case inr =>
    obtain ⟨M3, s1, s2⟩ := YN.swapP hsw hy hyj
    exact .inr ⟨vj, M3, s1, fun s' hs' => hK s' fun k hk => by rw [hs' k hk, s2 k hk]⟩
   obtain ⟨Mj, s1, s2⟩ := YN.swap hsw hI hy hyj
   refine .inl ⟨vj, Mj, s1, ?_⟩
   have hI' := YN.inh hT hE hI (hn j oj hoj) s1
   have hfree' : ∀ k ok, ops[k]? = some ok → k ≠ i → (listed.setIfInBounds j true).getD k true = false →
    aft ops i 2 k = false → qba (RK.map (·.1)) ops oi ok = true := fun k ok hk hki hun hno => by
    refine hfree k ok hk hki ?_ hno
    by_cases hjk : j = k
    ·subst hjk; exact hjun
    ·rw [getD_set_ne true hjk] at hun; exact hun
   have hap : ∀ x, oi.dst = some x → oj.dst ≠ some x := by
    simp only [qba, Bool.and_eq_true] at hsw
    exact (Oper.apart_spec hsw.1).2.1
   rw [AS.put_eq T Mj NoM] at hI' s2 ⊢
   refine ih (listed.setIfInBounds j true) _ _ Mij hfree' (qck hcl hoj hall) (ready_mono hr (Ne.symm hji)) hI' s2 ?_
   rw [Array.setIfInBounds_comm _ _ hji]
   rw [AS.put_eq T M' NoM] at hK
   rw [AS.put_comm T Mij NoM NoM v vj hap] at hK
   exact hK
def lastB (ops : Array Oper) (listed : Array Bool) (i : Nat) : Bool := (List.range ops.size).all fun j => j == i || listed.getD j true || aft ops i 8 j
theorem qok {Q : AS → Prop} {Qp : AVal → AS → Prop} {i : Nat} {oi : Oper} {v : AVal} (hi : ops[i]? = some oi) {fuel : Nat} {listed : Array Bool} {s : AS} {M' : Mem} (hl : lastB ops listed i = true) (hcl : q9i ops listed)
 (hr : i ∈ Region.ready .any ops listed) (hy : MutO P RK ops s oi (.pan v) M') (hq : PanD Qp v M') : anyA P TE EQ RK ops Q Qp (fuel + 1) listed s := by
 refine ⟨fun h => (by rw [h] at hr; cases hr), fun j hj => ?_⟩
 by_cases hji : j = i
 ·subst hji; unfold opK; simp only [hi]; exact .inr ⟨v, M', hy, hq⟩
 ·exfalso
  obtain ⟨hjun, oj, hoj, hall⟩ := mem_ready.1 hj
  simp only [lastB, List.all_eq_true, List.mem_range] at hl
  have h1 := hl j (Array.getElem?_eq_some_iff.1 hoj).1
  simp only [Bool.or_eq_true, beq_iff_eq, hji, false_or, hjun, Bool.false_eq_true] at h1
  have h2 := q9l hcl 8 j oj hoj hall h1
  have h0 := (mem_ready.1 hr).1
  rcases Nat.lt_or_ge i listed.size with h' | h'
  ·simp [h'] at h0 h2; rw [h0] at h2; cases h2
  ·simp [Array.getElem?_eq_none h'] at h2
def lexA (P : Program) (TE : TyE) (EQ : TypeId → Bool) (RK : Option (List Nat × (Nat → Bool))) (ops : Array Oper) (Q : AS → Prop) (Qp : AVal → AS → Prop) : List Oper → AS → Prop
 | [], s => Q s
 | o :: rest, s => (∃ v M', YN P TE EQ RK ops s o v M' ∧ lexA P TE EQ RK ops Q Qp rest (AS.put ⟨s.T, M'⟩ o.dst v)) ∨ ∃ v M', MutO P RK ops s o (.pan v) M' ∧ PanD Qp v M'
def freeA (rw : Option (List Nat)) (ops : Array Oper) (listed : Array Bool) (i : Nat) : Bool :=
 match ops[i]? with
 | none => false
 | some oi => (List.range ops.size).all fun j => j == i || listed.getD j true || match ops[j]? with
  | some oj => aft ops i 2 j || qba rw ops oi oj
  | none => true
theorem z1v {i : Nat} {oi : Oper} {listed : Array Bool} (hi : ops[i]? = some oi) (h : freeA (RK.map (·.1)) ops listed i = true) (j : Nat) (oj : Oper)
 (hj : ops[j]? = some oj) (hne : j ≠ i) (hun : listed.getD j true = false) (hno : aft ops i 2 j = false) :
 qba (RK.map (·.1)) ops oi oj = true := by
 simp only [freeA, hi, List.all_eq_true, List.mem_range] at h
 have h1 := h j (Array.getElem?_eq_some_iff.1 hj).1
 simpa only [hj, Bool.or_eq_true, beq_iff_eq, hne, false_or, hun, Bool.false_eq_true, hno] using h1
def mutB (rw : Option (List Nat)) (ops : Array Oper) (listed : Array Bool) (i : Nat) : Bool :=
 match ops[i]? with
 | none => true
 | some oi => match q7q rw oi.dst oi.op with
  | .m => lastB ops listed i
  | _ => true
def q8i (rw : Option (List Nat)) (ops : Array Oper) : Nat → Nat → Array Bool → Bool
 | 0, _, listed => (Region.ready .any ops listed).isEmpty
 | fuel + 1, k, listed => (Region.ready .any ops listed).contains k && freeA rw ops listed k && mutB rw ops listed k && q8i rw ops fuel (k + 1) (listed.setIfInBounds k true)
def lexBA (rw : Option (List Nat)) (ops : Array Oper) : Bool := q8i rw ops ops.size 0 (Array.replicate ops.size false)
theorem z14 (hT : q2r P TE) (hE : ∀ t, EQ t = true → EqOk P t) {n : Nat} (hn : qoa n ops) {Q : AS → Prop} {Qp : AVal → AS → Prop} : ∀ (l : List Oper) (k : Nat) (listed : Array Bool) (s : AS), (∀ j, l[j]? = ops[k + j]?) →
 q8i (RK.map (·.1)) ops l.length k listed = true → q9i ops listed → Inh n s → lexA P TE EQ RK ops Q Qp l s → anyA P TE EQ RK ops Q Qp l.length listed s
 | [], _, _, _, _, hB, _, _, h => ⟨by simpa [q8i] using hB, h⟩
 | o :: l, k, listed, s, hl, hB, hcl, hI, h => by
  have h0 : ops[k]? = some o := by simpa using (hl 0).symm
  simp only [List.length_cons, q8i, Bool.and_eq_true] at hB
  obtain ⟨⟨⟨hr, hf⟩, hmt⟩, hB'⟩ := hB
  rcases h with ⟨v, M', hy, hK⟩ | ⟨v, M', hy, hK⟩
  case inr =>
   refine qok h0 ?_ hcl (by simpa using hr) hy hK
   unfold mutB at hmt
   simp only [h0, hy.cls] at hmt
   exact hmt
  exact z2m hT hE hn h0 l.length listed s.T s.M M' (z1v h0 hf) hcl (by simpa using hr) hI hy
   (z14 hT hE hn l (k + 1) _ _ (fun j => by have := hl (j + 1); simpa [Nat.add_assoc, Nat.add_comm 1 j] using this) hB' (qck hcl h0 (by
    have hm : k ∈ Region.ready .any ops listed := by simpa using hr
    obtain ⟨_, o', ho', ha⟩ := mem_ready.1 hm
    rw [h0] at ho'
    cases ho'
    exact ha)) (YN.inh hT hE hI (hn k o h0) hy) hK)
theorem q5a (hT : q2r P TE) (hE : ∀ t, EQ t = true → EqOk P t) {n : Nat} (hn : qoa n ops) {Q : AS → Prop} {Qp : AVal → AS → Prop} {Q' : Exit → Act → World → Prop} {B : Nat → Prop} {G0 : Gh} {w0 : World}
 (hQ : ∀ s a w G, Adv G0 w0 G w → Rel n B G s a w → Q s → Q' .normal a w)
 (hQp : ∀ v s a w G, Adv G0 w0 G w → Rel n B G s a w → Qp v s → ∀ v', VR (Dm s.M) G B w v v' → Q' (.panic [{ v := v', recovered := false }]) a w) : ∀ (fuel : Nat) (listed : Array Bool) (s : AS) (a : Act) (w : World) (G : Gh), Adv G0 w0 G w → Rel n B G s a w →
 anyA P TE EQ RK ops Q Qp fuel listed s → wpAny P .any ops Q' fuel listed a w
 | 0, _, s, a, w, G, hA, hR, h => ⟨h.1, hQ s a w G hA hR h.2⟩
 | fuel + 1, listed, s, a, w, G, hA, hR, h => by
  refine ⟨fun h0 => hQ s a w G hA hR (h.1 h0), fun i hi => ?_⟩
  have h1 := h.2 i hi
  unfold opK at h1
  unfold wpOp
  cases ho : ops[i]? with
  | none => simp only [ho] at h1 ⊢; exact q5a hT hE hn hQ hQp fuel _ s a w G hA hR h1
  | some o =>
   simp only [ho] at h1 ⊢
   rcases h1 with ⟨v, M', hy, hK⟩ | ⟨v, M', ⟨hw, ws, Kk, L, _, _, _, hc⟩, hK⟩
   case inr =>
    rw [if_pos (q5c hR hw)]
    exact .inl (CallsM.wp (out := .pan v) hR (fun v' w' G' hA' hR' hV => hQp v ⟨s.T, M'⟩ a w' G' (hA.trans hA') hR' (hK _ fun _ _ => rfl) v' hV) hc)
   have := YN.sound (Q := Q') (K := wpAny P .any ops Q' fuel (listed.setIfInBounds i true)) hT hE hR (hn i o ho) hy (fun a' w' G' hA' hR' => q5a hT hE hn hQ hQp fuel _ _ a' w' G' (hA.trans hA') hR' hK)
   split at this
   ·rename_i hw; rw [if_pos hw]; exact .inl this
   ·rename_i hw; rw [if_neg hw]; exact this
theorem q7a (hm : P.follows .mixedOrders = true) (hT : q2r P TE) (hE : ∀ t, EQ t = true → EqOk P t) {n : Nat} (hn : qoa n ops) (hB : lexBA (RK.map (·.1)) ops = true) {Q : AS → Prop} {Qp : AVal → AS → Prop} {Q' : Exit → Act → World → Prop} {B : Nat → Prop} {G : Gh}
 {s : AS} {a : Act} {w : World} {id : Nat} (hR : Rel n B G s a w) (hQ : ∀ s a' w' G', Adv G w G' w' → Rel n B G' s a' w' → Q s → Q' .normal a' w')
 (hQp : ∀ v s a' w' G', Adv G w G' w' → Rel n B G' s a' w' → Qp v s → ∀ v', VR (Dm s.M) G' B w' v v' → Q' (.panic [{ v := v', recovered := false }]) a' w') (h : lexA P TE EQ RK ops Q Qp ops.toList s) :
 (Code.region id ops true).wp P Q' a w := by
 refine wp_region_any hm ?_
 have h1 := z14 hT hE hn ops.toList 0 (Array.replicate ops.size false) s (by simp) (by simpa [lexBA] using hB) (fun j o _ hj => by
  simp only [Array.getD_eq_getD_getElem?, Array.getElem?_replicate] at hj
  split at hj <;> simp at hj) ⟨B, G, a, w, hR⟩ h
 have := q5a (Q' := Q') hT hE hn (B := B) (G0 := G) (w0 := w) (fun s a' w' G' hA hR' hq => hQ s a' w' G' hA hR' hq) (fun v s a' w' G' hA hR' hq => hQp v s a' w' G' hA hR' hq) _ _ s a { w with drawn := w.drawn + 1 } G (Adv.drawn G w _) (hR.drawn _) h1
 simpa using this
end
end
section
structure Env where
 P : Program
 TE : TyE
 EQ : TypeId → Bool
 hm : P.follows .mixedOrders = true
 hT : q2r P TE
 hE : ∀ t, EQ t = true → EqOk P t
structure SOp where
 dst : Option Tmp
 op : Op
 g : Option (Option Tmp × Bool)
@[reducible] def zO (d : Nat) (p : Op) : SOp := ⟨some d, p, none⟩
@[reducible] def zM (d x : Nat) : SOp := ⟨some d, .move (.tmp x), none⟩
@[reducible] def zG (d x : Nat) : SOp := ⟨some d, .assign (.tmp x), none⟩
@[reducible] def zL (d t x : Nat) : SOp := ⟨some d, .load t (.tmp x), none⟩
@[reducible] def zF (d t x f : Nat) : SOp := ⟨some d, .fieldAddr t (.tmp x) f, none⟩
@[reducible] def zI (d t x y : Nat) : SOp := ⟨some d, .indexAddr t (.tmp x) (.tmp y), none⟩
@[reducible] def zX (d x i : Nat) : SOp := ⟨some d, .extract (.tmp x) i, none⟩
inductive SC where
 | skip
 | ops (draw : Bool) (l : List SOp)
 | opsW (ws : List Nat) (l : List SOp)
 | seq (x y : SC)
 | cond (c : Operand) (x y : SC)
 | block (id : Nat) (x : SC)
 | loop (x : SC)
 | exit (id : Nat)
 | ret
def q4z (ops : Array Oper) (o : Oper) : SOp := ⟨o.dst, o.op, match o.guard with | none => none | some (j, b) => some ((ops[j]?).bind (·.dst), b)⟩
def dstB (n : Nat) (ops : Array Oper) : Bool := ops.toList.all fun o => match o.dst with | some t => decide (t < n) | none => true
theorem qg0 {n : Nat} {ops : Array Oper} (h : dstB n ops = true) : qoa n ops := by
 intro i o ho t ht
 have := List.all_eq_true.1 h o (by rw [← Array.getElem?_toList] at ho; exact List.mem_of_getElem? ho)
 simpa [ht] using this
def qmo (ops : Array Oper) : List Nat :=
 ops.toList.filterMap fun (p : Oper) => match p.op with
  | .call ⟨.builtin .append, args, _⟩ => match (args[0]? : Option Operand) with
   | some (.tmp t) => some t
   | _ => none
  | _ => none
def mutL : List Nat := [47, 50, 58, 60, 62, 66, 85, 86, 87, 92, 97, 104, 105, 106, 108, 131, 133, 134, 196, 197]
def qg4 (ops : Array Oper) : List Nat :=
 ops.toList.filterMap fun (p : Oper) => match p.op with
  | .call ⟨.value (.func f), _, _⟩ => if mutL.contains f then p.dst else none
  | _ => none
def q7i (n : Nat) : Code → Option SC
 | .skip => some .skip
 | .region _ ops draw =>
  if dstB n ops && (!draw || ((qg4 ops).isEmpty && lexBA none ops)) then some (.ops draw (ops.toList.map (q4z ops)))
  else if dstB n ops && lexBA (some (qmo ops ++ qg4 ops)) ops then some (.opsW (qmo ops ++ qg4 ops) (ops.toList.map (q4z ops))) else none
 | .seq x y => match q7i n x, q7i n y with | some x, some y => some (.seq x y) | _, _ => none
 | .cond c x y => match q7i n x, q7i n y with | some x, some y => some (.cond c x y) | _, _ => none
 | .block id x => match q7i n x with | some x => some (.block id x) | none => none
 | .loop x => match q7i n x with | some x => some (.loop x) | none => none
 | .exit id => some (.exit id)
 | .ret => some .ret
 | _ => none
inductive Ex where
 | normal
 | exit (id : Nat)
 | ret
 | pan (v : AVal)
def Post (n : Nat) (B : Nat → Prop) (G : Gh) (w : World) (Q : Ex → AS → Prop) (Q' : Exit → Act → World → Prop) : Prop :=
 ∀ e s a' w' G', Adv G w G' w' → Rel n B G' s a' w' → Q e s →
  match e with
  | .normal => Q' .normal a' w'
  | .exit id => Q' (.exit id) a' w'
  | .ret => Q' .ret a' w'
  | .pan x => ∀ v', VR (Dm s.M) G' B w' x v' → Q' (.panic [{ v := v', recovered := false }]) a' w'
theorem Post.adv {n : Nat} {B : Nat → Prop} {G G1 : Gh} {w w1 : World} {Q : Ex → AS → Prop} {Q' : Exit → Act → World → Prop} (h : Post n B G w Q Q') (hA : Adv G w G1 w1) : Post n B G1 w1 Q Q' :=
 fun e s a' w' G' hA' hR hq => h e s a' w' G' (hA.trans hA') hR hq
def AW (E : Env) (n : Nat) (x : SC) (Q : Ex → AS → Prop) (s : AS) : Prop :=
 ∀ c, q7i n c = some x → ∀ B G a w, Rel n B G s a w → ∀ Q', Post n B G w Q Q' → c.wp E.P Q' a w
def Wk (n : Nat) (s s' : AS) : Prop := ∀ B G a w, Rel n B G s a w → ∃ G', Rel n B G' s' a w ∧ Adv G w G' w
theorem Wk.refl (n : Nat) (s : AS) : Wk n s s := fun B G a w h => ⟨G, h, .refl G w⟩
theorem Wk.trans {n : Nat} {s s1 s2 : AS} (h : Wk n s s1) (h' : Wk n s1 s2) : Wk n s s2 := fun B G a w hR =>
 let ⟨G1, h1, a1⟩ := h B G a w hR
 let ⟨G2, h2, a2⟩ := h' B G1 a w h1
 ⟨G2, h2, a1.trans a2⟩
section
variable {E : Env} {n : Nat} {Q : Ex → AS → Prop} {s : AS}
theorem AW.wk {x : SC} {s' : AS} (hw : Wk n s s') (h : AW E n x Q s') : AW E n x Q s := fun c hc B G a w hR Q' hP =>
 let ⟨G1, h1, a1⟩ := hw B G a w hR
 h c hc B G1 a w h1 Q' (hP.adv a1)
theorem AW.mono {x : SC} {Q1 : Ex → AS → Prop} (h : AW E n x Q1 s) (hq : ∀ e s, Q1 e s → Q e s) : AW E n x Q s := fun c hc B G a w hR Q' hP =>
 h c hc B G a w hR Q' fun e s a' w' G' hA hR hq1 => hP e s a' w' G' hA hR (hq e s hq1)
theorem AW.skip (h : Q .normal s) : AW E n .skip Q s := by
 intro c hc B G a w hR Q' hP
 cases c <;> simp only [q7i, reduceCtorEq] at hc
 case skip => exact wp_skip (hP _ _ _ _ _ (.refl G w) hR h)
 all_goals first | (simp at hc; done) | ((repeat' split at hc) <;> simp at hc; done) | skip
theorem AW.ret (h : Q .ret s) : AW E n .ret Q s := by
 intro c hc B G a w hR Q' hP
 cases c <;> simp only [q7i, reduceCtorEq] at hc
 case ret => exact wp_ret (hP _ _ _ _ _ (.refl G w) hR h)
 all_goals first | (simp at hc; done) | ((repeat' split at hc) <;> simp at hc; done) | skip
theorem AW.exit {id : Nat} (h : Q (.exit id) s) : AW E n (.exit id) Q s := by
 intro c hc B G a w hR Q' hP
 cases c <;> simp only [q7i, reduceCtorEq] at hc
 case exit id' =>
  simp only [Option.some.injEq, SC.exit.injEq] at hc
  subst hc
  exact wp_exit (hP _ _ _ _ _ (.refl G w) hR h)
 all_goals first | (simp at hc; done) | ((repeat' split at hc) <;> simp at hc; done) | skip
def Ex.then (next : AS → Prop) (Q : Ex → AS → Prop) : Ex → AS → Prop
 | .normal, s => next s
 | e, s => Q e s
theorem AW.seq {x y : SC} (h : AW E n x (Ex.then (AW E n y Q) Q) s) : AW E n (.seq x y) Q s := by
 intro c hc B G a w hR Q' hP
 cases c <;> simp only [q7i, reduceCtorEq] at hc
 case seq cx cy =>
  split at hc
  case h_2 => simp at hc
  rename_i x' y' hx hy
  simp only [Option.some.injEq, SC.seq.injEq] at hc
  obtain ⟨rfl, rfl⟩ := hc
  refine wp_seq (h cx hx B G a w hR _ fun e s1 a' w' G' hA hR' hq => ?_)
  cases e with
  | normal => exact hq cy hy B G' a' w' hR' Q' (hP.adv hA)
  | exit id => exact hP _ _ _ _ _ hA hR' hq
  | ret => exact hP _ _ _ _ _ hA hR' hq
  | pan v => exact hP _ _ _ _ _ hA hR' hq
 all_goals first | (simp at hc; done) | ((repeat' split at hc) <;> simp at hc; done) | skip
theorem AW.cond {o : Operand} {x y : SC} {b : Bool} (hb : ev s.T o = .bool b) (ht : b = true → AW E n x Q s) (hf : b = false → AW E n y Q s) : AW E n (.cond o x y) Q s := by
 intro c hc B G a w hR Q' hP
 cases c <;> simp only [q7i, reduceCtorEq] at hc
 case cond co cx cy =>
  split at hc
  case h_2 => simp at hc
  rename_i x' y' hx hy
  simp only [Option.some.injEq, SC.cond.injEq] at hc
  obtain ⟨rfl, rfl, rfl⟩ := hc
  have hv := hR.ev co
  rw [hb] at hv
  have hv' : a.eval co = .bool b := by generalize a.eval co = cv at hv; cases hv; rfl
  exact wp_cond_split hv' (fun h1 => ht h1 cx hx B G a w hR Q' hP) (fun h1 => hf h1 cy hy B G a w hR Q' hP)
 all_goals first | (simp at hc; done) | ((repeat' split at hc) <;> simp at hc; done) | skip
def Ex.inBlock (id : Nat) (Q : Ex → AS → Prop) : Ex → AS → Prop
 | .exit id', s => if id' = id then Q .normal s else Q (.exit id') s
 | e, s => Q e s
theorem AW.block {id : Nat} {x : SC} (h : AW E n x (Ex.inBlock id Q) s) : AW E n (.block id x) Q s := by
 intro c hc B G a w hR Q' hP
 cases c <;> simp only [q7i, reduceCtorEq] at hc
 case block id' cx =>
  split at hc
  case h_2 => simp at hc
  rename_i x' hx
  simp only [Option.some.injEq, SC.block.injEq] at hc
  obtain ⟨rfl, rfl⟩ := hc
  refine wp_block (h cx hx B G a w hR _ fun e s1 a' w' G' hA hR' hq => ?_)
  cases e with
  | normal => exact hP .normal _ _ _ _ hA hR' hq
  | exit id =>
   simp only [Ex.inBlock, Exit.inBlock] at hq ⊢
   split
   ·rename_i he; rw [if_pos he] at hq; exact hP .normal _ _ _ _ hA hR' hq
   ·rename_i he; rw [if_neg he] at hq; exact hP (.exit id) _ _ _ _ hA hR' hq
  | ret => exact hP .ret _ _ _ _ hA hR' hq
  | pan v => exact hP (.pan v) _ _ _ _ hA hR' hq
 all_goals first | (simp at hc; done) | ((repeat' split at hc) <;> simp at hc; done) | skip
theorem AW.loop {x : SC} (I : Nat → AS → Prop) {m0 : Nat} (h0 : I m0 s)
 (round : ∀ m s, I m s → AW E n x (Ex.then (fun s' => ∃ m' s'', m' < m ∧ Wk n s' s'' ∧ I m' s'') Q) s) : AW E n (.loop x) Q s := by
 intro c hc B G a w hR Q' hP
 cases c <;> simp only [q7i, reduceCtorEq] at hc
 case loop cx =>
  split at hc
  case h_2 => simp at hc
  rename_i x' hx
  simp only [Option.some.injEq, SC.loop.injEq] at hc
  subst hc
  let J : Nat → Act → World → Prop := fun m a' w' => ∃ s' G', Adv G w G' w' ∧ Rel n B G' s' a' w' ∧ I m s'
  intro b k cs
  have key : ∀ m a' w', J m a' w' → ∃ e a'' w'', Q' e a'' w'' ∧ Arrives E.P (lone (b.at a' (.code cx :: .inLoop cx :: k)) cs w') b k cs e a'' w'' := by
   intro m
   induction m using Nat.strongRecOn with
   | _ m ih =>
    intro a' w' ⟨s', G', hA, hR', hI⟩
    obtain ⟨e, a1, w1, hq, harr⟩ := round m s' hI cx hx B G' a' w' hR' (Exit.then (fun a1 w1 => ∃ m', m' < m ∧ J m' a1 w1) Q') (fun e s1 a1 w1 G1 hA1 hR1 hq => by
     cases e with
     | normal =>
      obtain ⟨m', s2, hlt, hwk, hI2⟩ := hq
      obtain ⟨G2, hR2, hA2⟩ := hwk B G1 a1 w1 hR1
      exact ⟨m', hlt, s2, G2, (hA.trans hA1).trans hA2, hR2, hI2⟩
     | exit id => exact hP (.exit id) _ _ _ _ (hA.trans hA1) hR1 hq
     | ret => exact hP .ret _ _ _ _ (hA.trans hA1) hR1 hq
     | pan v => exact hP (.pan v) _ _ _ _ (hA.trans hA1) hR1 hq) b (.inLoop cx :: k) cs
    cases e with
    | normal =>
     obtain ⟨m', hlt, hJ⟩ := hq
     obtain ⟨e2, a2, w2, hq2, harr2⟩ := ih m' hlt a1 w1 hJ
     exact ⟨e2, a2, w2, hq2, .of_steps (Steps.trans harr (.one step_inLoop)) harr2⟩
    | exit id => exact ⟨_, a1, w1, hq, .pass (x := .inLoop cx) rfl (fun _ _ => .inl (by simp)) harr⟩
    | goto l => exact ⟨_, a1, w1, hq, .pass (x := .inLoop cx) rfl (fun _ _ => .inl (by simp)) harr⟩
    | ret => exact ⟨_, a1, w1, hq, .pass (x := .inLoop cx) rfl (fun _ _ => .inl (by simp)) harr⟩
    | panic ch => exact ⟨_, a1, w1, hq, .pass (x := .inLoop cx) rfl (fun _ _ => .inl (by simp)) harr⟩
    | outgrown => exact ⟨_, a1, w1, hq, .pass (x := .inLoop cx) rfl (fun _ _ => .inl (by simp)) harr⟩
  obtain ⟨e, a', w', hq, harr⟩ := key m0 a w ⟨s, G, .refl G w, hR, h0⟩
  exact ⟨e, a', w', hq, .of_steps (.one step_loop) harr⟩
 all_goals first | (simp at hc; done) | ((repeat' split at hc) <;> simp at hc; done) | skip
end
end
section
def opS (TE : TyE) (EQ : TypeId → Bool) (s : AS) (dst : Option Tmp) (op : Op) : AR := opA TE EQ s ⟨dst, op, 0, "", #[], none⟩
theorem opS_eq (TE : TyE) (EQ : TypeId → Bool) (s : AS) (o : Oper) : opA TE EQ s o = opS TE EQ s o.dst o.op := by
 obtain ⟨dst, op, type, pos, after, guard⟩ := o
 rfl
def z2y (o : SOp) (T : q12) (yes no : Prop) : Prop :=
 match o.g with
 | none => yes
 | some (none, _) => no
 | some (some t, b) => match T t with
  | .bool c => (c = b → yes) ∧ (c = !b → no)
  | .tup _ => no
  | _ => False
def callP (P : Program) (draw : Bool) (RK : Option (List Nat × (Nat → Bool))) (s : AS) (x : Operand) (args : Array Operand) (Kv Kp : AVal → Mem → Prop) : Prop :=
 ∃ f caps Kf out, ev s.T x = .fn f caps ∧ q0i ((evs s.T args.toList ++ caps).map (fz Kf s.M)) = true ∧ Ev P f ((evs s.T args.toList ++ caps).map (fz Kf s.M)) out ∧
  match out with
  | .ret v => ((draw = true → v.flt = true ∨ Kf = fun _ => false) ∧ (RK.isSome = true → Kf = fun _ => false)) ∧ Kv v (if v.flt = true then s.M else kill Kf s.M)
  | .pan v => draw = false ∧ Kp v (if v.flt = true then s.M else kill Kf s.M)
def callO (P : Program) (draw : Bool) (s : AS) (x : Operand) (args : Array Operand) (Kv : AVal → Mem → Prop) : Prop :=
 draw = false ∧ ∃ f p k e sz xs args' back r ys, ev s.T x = .fn f [] ∧ (evs s.T args.toList)[p]? = some (.os k e) ∧ s.M k = some (.arr e sz xs) ∧ q0i xs = true ∧
  ((evs s.T args.toList).map (fz (fun _ => false) s.M)).set p .undef = args' ∧ q0i args' = true ∧ r.stb = true ∧ q0i ys = true ∧ EvOwn P f args' p sz xs back r ys ∧
  Kv (if back = true then .os k (e + 1) else r) (upd s.M k (some (.arr (qab back e) sz ys)))
def qoh (P : Program) (draw : Bool) (RK : Option (List Nat × (Nat → Bool))) (s : AS) (x : Operand) (args : Array Operand) (Kv Kp : AVal → Mem → Prop) : Prop :=
 callP P draw RK s x args Kv Kp ∨ callO P draw s x args Kv
def callK (K : AS → Prop) (T : q12) (dst : Option Tmp) (v : AVal) (M' : Mem) : Prop := K (AS.put ⟨T, M'⟩ dst v)
def callQ (Q : Ex → AS → Prop) (T : q12) (v : AVal) (M' : Mem) : Prop := Q (.pan v) ⟨T, M'⟩
def stepM (E : Env) (draw : Bool) (RK : Option (List Nat × (Nat → Bool))) (o : SOp) (s : AS) (Q : Ex → AS → Prop) (K : AS → Prop) : Prop :=
 match o.op with
 | .call ⟨.value x, args, _⟩ => qoh E.P draw RK s x args (callK K s.T o.dst) (callQ Q s.T)
 | .panic x => match ev s.T x with
  | .iface t v => draw = false ∧ Q (.pan (.iface t v)) s
  | _ => False
 | op => match opS E.TE E.EQ s o.dst op with
  | some (v, ups) => ((draw = true → q7q (RK.map (·.1)) o.dst op = .r → ups = []) ∧ qmg RK o.dst op s.T = true) ∧ K (AS.put ⟨s.T, ap s.M ups⟩ o.dst v)
  | none => False
def Hook (P : Program) (s : AS) (op : Op) (posts : AVal → Mem → Prop) : Prop :=
 ∀ (n : Nat) (B : Nat → Prop) (G : Gh) (a : Act) (w : World), Rel n B G s a w → ∀ o : Oper, o.op = op → ∀ (K : Act → World → Prop) (Q : Exit → Act → World → Prop),
  (∀ v v' M' w' G', posts v M' → Adv G w G' w' → Rel n B G' ⟨s.T, M'⟩ a w' → VR (Dm M') G' B w' v v' → K (a.put o.dst v') w') → o.wp P a w K Q
def zeo (P : Program) (s : AS) (op : Op) (posts pans : AVal → Mem → Prop) : Prop :=
 ∀ (n : Nat) (B : Nat → Prop) (G : Gh) (a : Act) (w : World), Rel n B G s a w → ∀ o : Oper, o.op = op → ∀ (K : Act → World → Prop) (Q : Exit → Act → World → Prop),
  (∀ v v' M' w' G', posts v M' → Adv G w G' w' → Rel n B G' ⟨s.T, M'⟩ a w' → VR (Dm M') G' B w' v v' → K (a.put o.dst v') w') →
  (∀ v v' M' w' G', pans v M' → Adv G w G' w' → Rel n B G' ⟨s.T, M'⟩ a w' → VR (Dm M') G' B w' v v' → Q (.panic [{ v := v', recovered := false }]) a w') → o.wp P a w K Q
theorem Hook.toP {P : Program} {s : AS} {op : Op} {posts : AVal → Mem → Prop} (h : Hook P s op posts) : zeo P s op posts (fun _ _ => False) :=
 fun n B G a w hR o ho K Q hK _ => h n B G a w hR o ho K Q hK
def newS (E : Env) (RK : Option (List Nat × (Nat → Bool))) (o : SOp) (s : AS) (K : AS → Prop) : Prop :=
 RK = none ∧ ∃ x args ts f caps v blk d, o.op = .call ⟨.value x, args, ts⟩ ∧ ev s.T x = .fn f caps ∧ q0i ((evs s.T args.toList ++ caps).map (fz (fun _ => false) s.M)) = true ∧
  MakesB E.P f ((evs s.T args.toList ++ caps).map (fz (fun _ => false) s.M)) d v blk ∧ o.dst = some d ∧ s.M d = none ∧ K (AS.put ⟨s.T, upd s.M d (some blk)⟩ o.dst v)
def mutS (E : Env) (RK : Option (List Nat × (Nat → Bool))) (o : SOp) (s : AS) (Q : Ex → AS → Prop) (K : AS → Prop) : Prop :=
 ∃ ws Kk L out M', RK = some (ws, Kk) ∧ qaa ws o.dst o.op = .m ∧ (∀ j, L j = true → q5s j = true ∧ Kk j = false) ∧ CallsM E.P s o.op L out M' ∧
  match out with
  | .ret v => K (AS.put ⟨s.T, M'⟩ o.dst v)
  | .pan v => PanD (fun v s => Q (.pan v) s) v M'
def stepS (E : Env) (draw : Bool) (RK : Option (List Nat × (Nat → Bool))) (o : SOp) (s : AS) (Q : Ex → AS → Prop) (K : AS → Prop) : Prop :=
 stepM E draw RK o s Q K ∨ (draw = false ∧ ∃ posts pans, zeo E.P s o.op posts pans ∧ (∀ v M', posts v M' → K (AS.put ⟨s.T, M'⟩ o.dst v)) ∧ ∀ v M', pans v M' → Q (.pan v) ⟨s.T, M'⟩) ∨ newS E RK o s K ∨ mutS E RK o s Q K
def q06 (E : Env) (draw : Bool) (RK : Option (List Nat × (Nat → Bool))) (Q : Ex → AS → Prop) : List SOp → AS → Prop
 | [], s => Q .normal s
 | o :: r, s => z2y o s.T (stepS E draw RK o s Q (q06 E draw RK Q r)) (q06 E draw RK Q r (AS.put s o.dst (.tup [])))
section
variable {E : Env} {n : Nat} {Q : Ex → AS → Prop} {s : AS}
theorem qbt (p : Prop) [Decidable p] (a b : Bool) : (if p then AVal.bool a else AVal.bool b) = AVal.bool (if p then a else b) := by split <;> rfl
theorem qf5 (p : Prop) [Decidable p] (k : IntKind) (a b : Int) : (if p then AVal.int k a else AVal.int k b) = AVal.int k (if p then a else b) := by split <;> rfl
theorem qbc {draw : Bool} {RK : Option (List Nat × (Nat → Bool))} {o : SOp} {K : AS → Prop} (h : stepS E draw RK o s Q K) :
 (∃ x args ts, o.op = .call ⟨.value x, args, ts⟩ ∧ qoh E.P draw RK s x args (callK K s.T o.dst) (callQ Q s.T)) ∨
 (∃ v ups, opS E.TE E.EQ s o.dst o.op = some (v, ups) ∧ ((draw = true → q7q (RK.map (·.1)) o.dst o.op = .r → ups = []) ∧ qmg RK o.dst o.op s.T = true) ∧ K (AS.put ⟨s.T, ap s.M ups⟩ o.dst v)) ∨
 (∃ x t v, o.op = .panic x ∧ ev s.T x = .iface t v ∧ draw = false ∧ Q (.pan (.iface t v)) s) ∨
 (draw = false ∧ ∃ posts pans, zeo E.P s o.op posts pans ∧ (∀ v M', posts v M' → K (AS.put ⟨s.T, M'⟩ o.dst v)) ∧ ∀ v M', pans v M' → Q (.pan v) ⟨s.T, M'⟩) ∨ newS E RK o s K ∨ mutS E RK o s Q K := by
 rcases h with h | h | h
 case inr.inl => exact .inr (.inr (.inr (.inl h)))
 case inr.inr => exact .inr (.inr (.inr (.inr h)))
 unfold stepM at h
 split at h
 ·rename_i x args ts ho
  exact .inl ⟨x, args, ts, ho, h⟩
 ·rename_i x ho
  split at h
  ·rename_i t v hv
   exact .inr (.inr (.inl ⟨x, t, v, ho, hv, h.1, h.2⟩))
  ·exact h.elim
 ·split at h
  ·rename_i v ups hv
   exact .inr (.inl ⟨v, ups, hv, h.1, h.2⟩)
  ·exact h.elim
theorem qb0 {ops : Array Oper} {o : Oper} {T : q12} {yes no : Prop} (h : z2y (q4z ops o) T yes no) : (qa2 ops o T = some true ∧ yes) ∨ (qa2 ops o T = some false ∧ no) := by
 unfold z2y at h
 unfold qa2
 cases hg : o.guard with
 | none => simp only [q4z, hg] at h ⊢; exact .inl ⟨by trivial, h⟩
 | some jb =>
  obtain ⟨j, b⟩ := jb
  simp only [q4z, hg] at h ⊢
  cases ht : (ops[j]?).bind (·.dst) with
  | none => simp only [ht] at h ⊢; exact .inr ⟨by trivial, h⟩
  | some t =>
   simp only [ht] at h ⊢
   cases hT : T t <;> simp only [hT] at h ⊢
   case bool c =>
    by_cases hc : c = b
    ·exact .inl ⟨by simp [hc], h.1 hc⟩
    ·exact .inr ⟨by simp [hc], h.2 (by cases c <;> cases b <;> simp_all)⟩
   case tup cs => exact .inr ⟨by trivial, h⟩
theorem q3f {RK : Option (List Nat × (Nat → Bool))} {ops : Array Oper} : ∀ (l : List Oper) (s : AS), q06 E true RK Q (l.map (q4z ops)) s → lexA E.P E.TE E.EQ RK ops (Q .normal) (fun v s => Q (.pan v) s) l s
 | [], s, h => h
 | o :: l, s, h => by
  simp only [List.map_cons, q06] at h
  rcases qb0 h with ⟨hw, hy⟩ | ⟨hw, hno⟩
  ·rcases qbc hy with ⟨x, args, ts, ho, ⟨f, caps, Kf, out, h1, h2, h3, h4⟩ | ⟨hdr, f, p, k, e, sz, xs, args', back, r, ys, h1, h2, h3, h4, h5, h6, h7, h8, h9, h10⟩⟩ | ⟨v, ups, h1, h2, h3⟩ | ⟨x, t, v, ho, hv, hd, hq⟩ | ⟨hd, posts, pans, hk1, hk2, hk3⟩ | ⟨hrk, x, args, ts, f, caps, nv, blk, d, ho, h1, h2, h3, hds, hfr, h4⟩ | ⟨ws, Kk, L, out, M', hrk, hcl, hL, hcm, hout⟩
   ·cases out with
    | pan v => exact absurd h4.1 (by simp)
    | ret v =>
     obtain ⟨h4, h5⟩ := h4
     obtain ⟨h4, h4'⟩ := h4
     have h4 := h4 rfl
     have hM : (if v.flt = true then s.M else kill Kf s.M) = s.M := by
      rcases h4 with hk | hk
      ·simp [hk]
      ·subst hk; simp [qc8]
     rw [hM] at h5
     exact .inl ⟨v, s.M, .inl (.inl ⟨hw, .inr ⟨Kf, ⟨x, args, ts, f, caps, ho, h1, h2, h3⟩, rfl, h4, h4'⟩⟩), q3f l _ h5⟩
   ·cases hdr
   ·exact .inl ⟨v, _, .inl (.inl ⟨hw, .inl ⟨ups, by rw [opS_eq]; exact h1, rfl, h2.1 rfl, h2.2⟩⟩), q3f l _ h3⟩
   ·cases hd
   ·cases hd
   ·exact .inl ⟨nv, _, .inr (.inl ⟨d, _, ⟨hw, hrk, hds, hfr, x, args, ts, f, caps, ho, h1, h2, h3⟩, rfl⟩), q3f l _ h4⟩
   ·cases out with
    | ret v => exact .inl ⟨v, M', .inr (.inr ⟨hw, ws, Kk, L, hrk, hcl, hL, hcm⟩), q3f l _ hout⟩
    | pan v => exact .inr ⟨v, M', ⟨hw, ws, Kk, L, hrk, hcl, hL, hcm⟩, hout⟩
  ·exact .inl ⟨.tup [], s.M, .inl (.inr ⟨hw, rfl, rfl⟩), q3f l _ hno⟩
theorem q3p {ops : Array Oper} (hn : qoa n ops) {B : Nat → Prop} {Q' : Exit → Act → World → Prop} : ∀ (l : List Oper) (k : Nat) (s : AS) (G : Gh) (a : Act) (w : World), (∀ j, l[j]? = ops[k + j]?) → Rel n B G s a w → Post n B G w Q Q' →
 q06 E false none Q (l.map (q4z ops)) s → wpOps E.P ops Q' (List.range' k l.length) a w
 | [], k, s, G, a, w, hl, hR, hP, h => by simp only [List.length_nil, List.range'_zero, wpOps]; exact hP .normal _ _ _ _ (.refl G w) hR h
 | o :: l, k, s, G, a, w, hl, hR, hP, h => by
  have h0 : ops[k]? = some o := by simpa using (hl 0).symm
  have hl' : ∀ j, l[j]? = ops[k + 1 + j]? := fun j => by have := hl (j + 1); simpa [Nat.add_assoc, Nat.add_comm 1 j] using this
  simp only [List.length_cons, List.range'_succ, wpOps, h0]
  simp only [List.map_cons, q06] at h
  rcases qb0 h with ⟨hw, hy⟩ | ⟨hw, hno⟩
  ·rw [if_pos (q5c hR hw)]
   refine .inl ?_
   rcases qbc hy with ⟨x, args, ts, ho, ⟨f, caps, Kf, out, h1, h2, h3, h4⟩ | ⟨hdr, f, p, k, e, sz, xs, args', back, r, ys, h1, h2, h3, h4, h5, h6, h7, h8, h9, h10⟩⟩ | ⟨v, ups, h1, h2, h3⟩ | ⟨x, t, v, ho, hv, hd, hq⟩ | ⟨hd, posts, pans, hk1, hk2, hk3⟩ | ⟨hrk, x, args, ts, f, caps, nv, blk, d, ho, h1, h2, h3, hds, hfr, h4⟩ | ⟨ws, Kk, L, out, M', hrk, hcl, hL, hcm, hout⟩
   ·refine CallsA.wp (out := out) hR ?_ ⟨x, args, ts, f, caps, ho, h1, h2, h3⟩
    cases out with
    | pan v => exact fun v' w' G' hA hR' hV => hP (.pan v) _ _ _ _ hA hR' h4.2 v' hV
    | ret v => exact fun v' w' G' hA hR' hV => q3p hn l (k + 1) _ G' _ w' hl' (hR'.put (hn k o h0) hV) (hP.adv hA) h4.2
   ·have ho' : o.op = .call ⟨.value x, args, ts⟩ := ho
    obtain ⟨fn, hfn, hnm, hbd⟩ := h9.1.ok
    have hx := hR.ev x
    rw [h1] at hx
    generalize hxv : a.eval x = xv at hx
    cases hx with
    | fn _ _ vs hl0 hh =>
     have hvs : vs = #[] := Array.eq_empty_of_size_eq_zero (by simpa using hl0)
     subst hvs
     have hrun : (execOp a.eval o).run E.P w = .ok (.enter f (args.map a.eval)) w := by
      unfold execOp
      rw [ho']
      have e1 : (fn.name = "runtime.NumGoroutine") = False := by simpa using hnm
      have e2 : (fn.body = none) = False := by simp only [eq_iff_iff, iff_false]; intro hn; rw [hn] at hbd; simp at hbd
      simp [resolve, hxv, Deferred.ofValue, invoke, callFunc, hfn, e1, e2]
     unfold Oper.wp
     rw [hrun]
     simp only [Oper.upon]
     obtain ⟨q1, q2⟩ := q9k hR args
     refine z2i hR q1 (fun i y u hy hu => ?_) h2 h3 h4 h5 h6 h7 h8 h9 (fun v' w' G' hA hR' hV => q3p hn l (_ + 1) _ G' _ w' hl' (hR'.put (hn _ o h0) hV) (hP.adv hA) h10)
     obtain ⟨u', hu', hr'⟩ := q2 i y hy
     rw [hu] at hu'
     exact (Option.some.inj hu') ▸ hr'
   ·obtain ⟨r, w', v', G', e1, e2, e3, e4, e5⟩ := opA_ok E.hT E.hE hR (o := o) (by rw [opS_eq]; exact h1)
    unfold Oper.wp
    rw [e1]
    have hgo : wpOps E.P ops Q' (List.range' (k + 1) l.length) (a.put o.dst v') w' := q3p hn l (k + 1) _ G' _ w' hl' (e4.put (hn k o h0) e5) (hP.adv e3) h3
    rcases e2 with rfl | ⟨rfl, rfl⟩ <;> exact hgo
   ·have hx := hR.ev x
    rw [hv] at hx
    generalize hxv : a.eval x = xv at hx
    cases hx with
    | iface _ _ u hu =>
     have hrun : (execOp a.eval o).run E.P w = .halt (.panic (.iface t u)) w := by
      have ho' : o.op = .panic x := ho
      unfold execOp
      rw [ho']
      simp [Instr.panic, hxv, goPanic]
     unfold Oper.wp
     rw [hrun]
     exact hP (.pan (.iface t v)) _ _ _ _ (.refl G w) hR hq _ (.iface t v u hu)
   ·exact hk1 n B G a w hR o rfl _ _ (fun v v' M' w' G' hp hA hR' hV => q3p hn l (k + 1) _ G' _ w' hl' (hR'.put (hn k o h0) hV) (hP.adv hA) (hk2 v M' hp)) (fun v v' M' w' G' hp hA hR' hV => hP (.pan v) _ _ _ _ hA hR' (hk3 v M' hp) v' hV)
   ·exact CallsN.wp hR hfr (fun v' w' G' hA hR' hV => q3p hn l (k + 1) _ G' _ w' hl' (hR'.put (hn k o h0) hV) (hP.adv hA) h4) ⟨x, args, ts, f, caps, ho, h1, h2, h3⟩
   ·cases hrk
  ·rw [if_neg (by rw [q5c hR hw]; simp)]
   refine q3p hn l (k + 1) _ G _ w hl' (hR.put (hn k o h0) ?_) hP hno
   exact .tup [] #[] rfl fun n x v hx => by simp at hx
theorem AW.ops {draw : Bool} {l : List SOp} (h : q06 E draw none Q l s) : AW E n (.ops draw l) Q s := by
 intro c hc B G a w hR Q' hP
 cases c <;> simp only [q7i, reduceCtorEq] at hc
 case region id ops d =>
  split at hc
  case isFalse => split at hc <;> simp at hc
  rename_i hb
  simp only [Bool.and_eq_true, Bool.or_eq_true, Bool.not_eq_true'] at hb
  simp only [Option.some.injEq, SC.ops.injEq] at hc
  obtain ⟨rfl, rfl⟩ := hc
  have hn := qg0 hb.1
  cases d with
  | false =>
   refine wp_region ?_
   have := q3p hn ops.toList 0 s G a w (by simp) hR hP h
   rw [List.range_eq_range']
   simpa using this
  | true =>
   exact q7a (RK := none) (Qp := fun v s => Q (.pan v) s) E.hm E.hT E.hE hn (by simpa using (by simpa using hb.2 : _ ∧ _).2) hR (fun s1 a' w' G' hA hR' hq => hP .normal _ _ _ _ hA hR' hq) (fun v s1 a' w' G' hA hR' hq => hP (.pan v) _ _ _ _ hA hR' hq) (q3f ops.toList s h)
 all_goals first | (simp at hc; done) | ((repeat' split at hc) <;> simp at hc; done) | skip
theorem AW.opsW (K : Nat → Bool) {ws : List Nat} {l : List SOp} (h : q06 E true (some (ws, K)) Q l s) : AW E n (.opsW ws l) Q s := by
 intro c hc B G a w hR Q' hP
 cases c <;> simp only [q7i, reduceCtorEq] at hc
 case region id ops d =>
  split at hc
  case isTrue => simp at hc
  rename_i hno
  split at hc
  case isFalse => simp at hc
  rename_i hb
  simp only [Option.some.injEq, SC.opsW.injEq] at hc
  obtain ⟨rfl, rfl⟩ := hc
  simp only [Bool.and_eq_true] at hb
  have hn := qg0 hb.1
  cases d with
  | false => simp [hb.1] at hno
  | true =>
   exact q7a (RK := some (qmo ops ++ qg4 ops, K)) (Qp := fun v s => Q (.pan v) s) E.hm E.hT E.hE hn hb.2 hR (fun s1 a' w' G' hA hR' hq => hP .normal _ _ _ _ hA hR' hq) (fun v s1 a' w' G' hA hR' hq => hP (.pan v) _ _ _ _ hA hR' hq) (q3f ops.toList s h)
 all_goals first | (simp at hc; done) | ((repeat' split at hc) <;> simp at hc; done) | skip
theorem qcl {draw : Bool} {RK : Option (List Nat × (Nat → Bool))} {x : Operand} {args : Array Operand} {Kv Kp : AVal → Mem → Prop} (Kf : Nat → Bool) {f : FuncId} {caps l : List AVal} {v : AVal} (hf : ev s.T x = .fn f caps)
 (hl : (evs s.T args.toList ++ caps).map (fz Kf s.M) = l) (hs : q0i l = true) (he : Ev E.P f l (.ret v)) (hd : (draw = true → v.flt = true ∨ Kf = fun _ => false) ∧ (RK.isSome = true → Kf = fun _ => false))
 (h : Kv v (if v.flt = true then s.M else kill Kf s.M)) : qoh E.P draw RK s x args Kv Kp :=
 .inl ⟨f, caps, Kf, .ret v, hf, by rw [hl]; exact hs, by rw [hl]; exact he, hd, h⟩
theorem z2h {x : Operand} {args : Array Operand} {Kv Kp : AVal → Mem → Prop} (p k : Nat) {f : FuncId} {e sz : Nat} {xs args' ys : List AVal} (hf : ev s.T x = .fn f []) (hp : (evs s.T args.toList)[p]? = some (.os k e))
 (hk : s.M k = some (.arr e sz xs)) (ha : ((evs s.T args.toList).map (fz (fun _ => false) s.M)).set p .undef = args') (hst : q0i args' = true) (hxs : q0i xs = true) (hys : q0i ys = true)
 (he : EvOwn E.P f args' p sz xs true .undef ys) (h : Kv (.os k (e + 1)) (upd s.M k (some (.arr (e + 1) sz ys)))) : qoh E.P false none s x args Kv Kp :=
 .inr ⟨rfl, f, p, k, e, sz, xs, args', true, .undef, ys, hf, hp, hk, hxs, ha, hst, rfl, hys, he, h⟩
theorem qg5 {x : Operand} {args : Array Operand} {Kv Kp : AVal → Mem → Prop} (p k : Nat) {f : FuncId} {e sz : Nat} {xs args' ys : List AVal} {r : AVal} (hf : ev s.T x = .fn f []) (hp : (evs s.T args.toList)[p]? = some (.os k e))
 (hk : s.M k = some (.arr e sz xs)) (ha : ((evs s.T args.toList).map (fz (fun _ => false) s.M)).set p .undef = args') (hst : q0i args' = true) (hxs : q0i xs = true) (hys : q0i ys = true) (hr : r.stb = true)
 (he : EvOwn E.P f args' p sz xs false r ys) (h : Kv r (upd s.M k (some (.arr e sz ys)))) : qoh E.P false none s x args Kv Kp :=
 .inr ⟨rfl, f, p, k, e, sz, xs, args', false, r, ys, hf, hp, hk, hxs, ha, hst, hr, hys, he, h⟩
theorem z2g {draw : Bool} {RK : Option (List Nat × (Nat → Bool))} {x : Operand} {args : Array Operand} {Kv Kp : AVal → Mem → Prop} {f : FuncId} {caps l : List AVal} {v : AVal} (hf : ev s.T x = .fn f caps)
 (hl : (evs s.T args.toList ++ caps).map (fz (fun _ => false) s.M) = l) (hs : q0i l = true) (he : Ev E.P f l (.ret v))
 (h : Kv v s.M) : qoh E.P draw RK s x args Kv Kp :=
 qcl (fun _ => false) hf hl hs he ⟨fun _ => .inr rfl, fun _ => rfl⟩ (by rw [qc8]; split <;> exact h)
end
end
section
def q74 : Nat → Bool := fun _ => true
theorem q47 (G : Gh) (b : Nat) : (G.without q74).ow b = none := by
 simp only [Gh.without, q74]
 cases G.ow b <;> simp
def q86 (TE : TyE) (s : AS) : ResultVar → Option AVal
 | .tmp t => some (fz q74 s.M (s.T t))
 | .cell a t =>
  match TE t, s.T a with
  | some i, .ptr k off =>
   match s.M k with
   | some (.cells cs) =>
    if i.td.isAgg = true then (if off + i.size ≤ cs.length then some (.agg (((cs.drop off).take i.size).map (fzc q74 s.M))) else none)
    else (match cs[off]? with | some x => some (fzc q74 s.M x) | none => none)
   | _ => none
  | _, _ => none
def q4o (TE : TyE) (s : AS) : List ResultVar → Option (List AVal)
 | [] => some []
 | r :: rs => match q86 TE s r, q4o TE s rs with | some x, some xs => some (x :: xs) | _, _ => none
def q75 : List AVal → AVal
 | [x] => x
 | xs => .tup xs
def sub1 (x y : AVal) : Prop := x = y ∨ (x = .nil ∧ ∃ sz, y = .sl sz [])
def qeg : List AVal → List AVal → Prop
 | [], [] => True
 | x :: l, y :: m => sub1 x y ∧ qeg l m
 | _, _ => False
theorem q1p : ∀ l : List AVal, qeg l l
 | [] => trivial
 | x :: l => ⟨.inl rfl, q1p l⟩
theorem qaf : ∀ {l m : List AVal}, qeg l m → l.length = m.length
 | [], [], _ => rfl
 | x :: l, y :: m, h => by simp [qaf h.2]
 | [], _ :: _, h => h.elim
 | _ :: _, [], h => h.elim
theorem qag : ∀ {l m : List AVal}, qeg l m → ∀ {i : Nat} {y : AVal}, m[i]? = some y → ∃ x, l[i]? = some x ∧ sub1 x y
 | x :: l, y :: m, h, 0, z, hz => by simp at hz; subst hz; exact ⟨x, rfl, h.1⟩
 | x :: l, y :: m, h, i + 1, z, hz => by simpa using qag h.2 (by simpa using hz)
 | [], [], _, i, z, hz => by simp at hz
 | [], _ :: _, h, _, _, _ => h.elim
 | _ :: _, [], h, _, _, _ => h.elim
theorem sub1_stb {x y : AVal} (h : sub1 x y) (hs : x.stb = true) : y.stb = true := by
 rcases h with rfl | ⟨rfl, sz, rfl⟩
 ·exact hs
 ·rfl
theorem qef : ∀ {l m : List AVal}, qeg l m → q0i l = true → q0i m = true
 | [], [], _, h => h
 | x :: l, y :: m, h, hs => by
  simp only [q0i, Bool.and_eq_true] at hs ⊢
  exact ⟨sub1_stb h.1 hs.1, qef h.2 hs.2⟩
 | [], _ :: _, h, _ => h.elim
 | _ :: _, [], h, _ => h.elim
theorem z38 {D : Nat → Nat → Prop} {G : Gh} {B : Nat → Prop} {w : World} {x y : AVal} {v : Value} (h : sub1 x y) (hv : VR D G B w x v) : VR D G B w y v := by
 rcases h with rfl | ⟨rfl, sz, rfl⟩
 ·exact hv
 ·cases hv; exact .slnil sz
def FnQ (TE : TyE) (rs : List ResultVar) (out : Out) : Ex → AS → Prop
 | .normal, s => ∃ xs, q4o TE s rs = some xs ∧ q0i xs = true ∧ ∃ ys, qeg xs ys ∧ out = .ret (q75 ys)
 | .ret, s => ∃ xs, q4o TE s rs = some xs ∧ q0i xs = true ∧ ∃ ys, qeg xs ys ∧ out = .ret (q75 ys)
 | .pan x, s => (fz q74 s.M x).stb = true ∧ out = .pan (fz q74 s.M x)
 | .exit _, _ => False
section
variable {P : Program} {TE : TyE}
theorem z3u (hT : q2r P TE) {n : Nat} {B : Nat → Prop} {G : Gh} {s : AS} {a : Act} {w : World} (h : Rel n B G s a w) {r : ResultVar} {x : AVal} (hr : q86 TE s r = some x) :
 ∃ v, (match r with | .tmp t => pure (a.tmps.getD t undef) | .cell c t => do loadVar t (← asAddr (a.tmps.getD c undef)) : Sem Value).run P w = .ok v w ∧ VR (Dm s.M) (G.without q74) B w x v := by
 cases r with
 | tmp t =>
  simp only [q86, Option.some.injEq] at hr
  subst hr
  exact ⟨a.tmps.getD t undef, rfl, qnz h.mem (h.temps t)⟩
 | cell c t =>
  simp only [q86] at hr
  have hx := h.temps c
  cases hi : TE t with
  | none => simp [hi] at hr
  | some i =>
   cases hc : s.T c <;> simp only [hi, hc, reduceCtorEq] at hr
   rename_i k off
   rw [hc] at hx
   dsimp only
   generalize a.tmps.getD c undef = av at hx ⊢
   cases hx with
   | ptr _ _ hD =>
    cases hm : s.M k with
    | none => simp [hm] at hr
    | some blk =>
     cases blk <;> simp only [hm, reduceCtorEq] at hr
     rename_i cs
     obtain ⟨cc, el, b1, b2, b3, b4, b5⟩ := h.mem k _ hm
     cases ha : i.td.isAgg
     ·simp only [ha, Bool.false_eq_true, if_false] at hr
      cases hy : cs[off]? with
      | none => simp [hy] at hr
      | some y =>
       simp only [hy, Option.some.injEq] at hr
       subst hr
       obtain ⟨u, hu, hru⟩ := b5 off y hy
       have := q1y hT hi (G.β k) off (fun _ => u) w (fun j hj => by
        have : j = 0 := by simpa [ha] using hj
        subst this
        rw [q29 b3]
        simpa using hu)
       simp only [ha, Bool.false_eq_true, if_false] at this
       exact ⟨u, by simp [asAddr, this], q8l h.mem rfl hru⟩
     ·simp only [ha, if_true] at hr
      split at hr
      case isFalse => simp at hr
      rename_i hle
      simp only [Option.some.injEq] at hr
      subst hr
      have hrun := q1y hT hi (G.β k) off (fun j => cc.getD (off + j) undef) w (fun j hj => by
       simp only [ha, if_true] at hj
       have hlt : off + j < cs.length := by omega
       obtain ⟨u, hu, hr⟩ := b5 (off + j) cs[off + j] (List.getElem?_eq_getElem hlt)
       rw [q29 b3, hu]
       simp [hu])
      simp only [ha, if_true] at hrun
      refine ⟨.agg ((List.range i.size).map fun j => cc.getD (off + j) undef).toArray, by simp [asAddr, hrun], .agg _ _ (by simp; omega) fun m x v hx hv => ?_⟩
      have hmn : m < i.size := by
       rcases Nat.lt_or_ge m i.size with h' | h'
       ·exact h'
       ·rw [List.getElem?_eq_none (by simp; omega)] at hx; cases hx
      simp only [List.getElem?_map, List.getElem?_take, hmn, if_true, List.getElem?_drop] at hx
      cases hq : cs[off + m]? with
      | none => simp [hq] at hx
      | some y =>
       simp only [hq, Option.map_some, Option.some.injEq] at hx
       subst hx
       obtain ⟨u, hu, hru⟩ := b5 _ _ hq
       have : v = u := by
        have e : ((List.range i.size).map fun j => cc.getD (off + j) undef)[m]? = some u := by simp [hmn, hu]
        rw [List.getElem?_toArray, e] at hv
        exact (Option.some.inj hv).symm
       rw [this]
       exact q8l h.mem rfl hru
theorem qhm (hT : q2r P TE) {n : Nat} {B : Nat → Prop} {G : Gh} {s : AS} {a : Act} {w : World} (h : Rel n B G s a w) : ∀ {rs : List ResultVar} {xs : List AVal}, q4o TE s rs = some xs →
 ∃ vs : List Value, (rs.mapM (fun r => match r with | .tmp t => pure (a.tmps.getD t undef) | .cell c t => do loadVar t (← asAddr (a.tmps.getD c undef)) : ResultVar → Sem Value)).run P w = .ok vs w ∧ vs.length = xs.length ∧
  ∀ (i : Nat) (x : AVal) (v : Value), xs[i]? = some x → vs[i]? = some v → VR (Dm s.M) (G.without q74) B w x v
 | [], xs, hr => by
  simp only [q4o, Option.some.injEq] at hr
  subst hr
  exact ⟨[], by simp, rfl, fun i x v hx => by simp at hx⟩
 | r :: rs, xs, hr => by
  simp only [q4o] at hr
  cases h1 : q86 TE s r with
  | none => simp [h1] at hr
  | some x =>
   cases h2 : q4o TE s rs with
   | none => simp [h1, h2] at hr
   | some ys =>
    simp only [h1, h2, Option.some.injEq] at hr
    subst hr
    obtain ⟨v, e1, e2⟩ := z3u hT h h1
    obtain ⟨vs, f1, f2, f3⟩ := qhm hT h h2
    refine ⟨v :: vs, ?_, by simp [f2], fun i y u hy hu => ?_⟩
    ·rw [List.mapM_cons]
     simp only [Sem.run_bind, e1, Result.andThen, f1, Sem.run_pure]
    ·cases i with
     | zero =>
      simp only [List.getElem?_cons_zero, Option.some.injEq] at hy hu
      subst hy; subst hu
      exact e2
     | succ i => exact f3 i y u (by simpa using hy) (by simpa using hu)
theorem z1l (hT : q2r P TE) {n : Nat} {B : Nat → Prop} {G : Gh} {s : AS} {a : Act} {w : World} (h : Rel n B G s a w) {fn : Func} {xs ys : List AVal} (hr : q4o TE s fn.results.toList = some xs) (hsub : qeg xs ys) :
 ∃ v, (results fn a.tmps).run P w = .ok v w ∧ VR (Dm s.M) (G.without q74) B w (q75 ys) v := by
 obtain ⟨vs, e1, e2, e3⟩ := qhm hT h hr
 have e3' : ∀ (i : Nat) (y : AVal) (v : Value), ys[i]? = some y → vs[i]? = some v → VR (Dm s.M) (G.without q74) B w y v := fun i y v hy hv => by
  obtain ⟨x, hx, hs⟩ := qag hsub hy
  exact z38 hs (e3 i x v hx hv)
 rw [qaf hsub] at e2
 replace e3 := e3'
 have hm : (fn.results.mapM (fun r => match r with | .tmp t => pure (a.tmps.getD t undef) | .cell c t => do loadVar t (← asAddr (a.tmps.getD c undef)) : ResultVar → Sem Value)).run P w = .ok vs.toArray w := by
  rw [Array.mapM_eq_mapM_toList]
  simp only [Sem.run_map, e1, Result.andThen]
 refine ⟨if h : vs.toArray.size = 1 then vs.toArray[0] else .tuple vs.toArray, ?_, ?_⟩
 ·unfold results
  simp only [Sem.run_bind]
  refine Eq.trans (congrArg (fun r => Result.andThen r _) hm) ?_
  simp [Result.andThen]
 ·clear e3' hr hsub e1 hm
  match ys, vs, e2 with
  | [], [], _ => exact .tup [] _ rfl fun n x v hx => by simp at hx
  | [x], [v], _ => exact e3 0 x v rfl rfl
  | x :: y :: l, v :: u :: l', e2 =>
   simp only [List.size_toArray, List.length_cons, Nat.reduceEqDiff, Nat.add_eq_zero_iff, Nat.succ_ne_self, and_false, dite_false, q75]
   exact .tup _ _ (by simp; simpa using e2) fun n x v hx hv => e3 n x v hx (by simpa using hv)
end
def q41 (args : List AVal) : q12 := fun t => (args[t]?).getD .undef
def FnIs (P : Program) (f : FuncId) (n : Nat) (rs : List ResultVar) (sc : SC) : Prop :=
 ∃ fn c, P.funcs[f]? = some fn ∧ (fn.name == "runtime.NumGoroutine") = false ∧ fn.body = some c ∧ fn.ntmps = n ∧ fn.results.toList = rs ∧ q7i n c = some sc
theorem Ev.of_body {E : Env} {f : FuncId} {n : Nat} {rs : List ResultVar} {sc : SC} (hf : FnIs E.P f n rs sc) {args : List AVal} {out : Out} (hl : args.length ≤ n)
 (h : AW E n sc (FnQ E.TE rs out) ⟨q41 args, NoM⟩) : Ev E.P f args out := by
 obtain ⟨fn, c, h1, h2, h3, rfl, rfl, h6⟩ := hf
 refine ⟨⟨fn, h1, h2, by simp [h3]⟩, fun B w vs G hG hsz hv hB => ?_⟩
 refine calls_of_wp h1 h3 ?_
 have hR : Rel fn.ntmps B G ⟨q41 args, NoM⟩ { tmps := vs ++ Array.replicate (fn.ntmps - vs.size) undef, defers := [] } w := by
  refine ⟨by simp; omega, rfl, fun t => ?_, fun k blk hk => by simp [NoM] at hk, fun b hb => ⟨hB b hb, hG b⟩, fun b hb => absurd (hG b) hb⟩
  simp only [q41]
  cases ht : args[t]? with
  | none => exact .undef _
  | some x =>
   have hlt : t < vs.size := by
    rw [hsz]
    rcases Nat.lt_or_ge t args.length with h' | h'
    ·exact h'
    ·rw [List.getElem?_eq_none h'] at ht; cases ht
   have : (vs ++ Array.replicate (fn.ntmps - vs.size) undef).getD t undef = vs[t] := by
    rw [Array.getD_eq_getD_getElem?, Array.getElem?_append_left hlt]
    simp [hlt]
   simp only [Option.getD_some, this]
   exact hv t x _ ht (by simp [hlt])
 refine h c h6 B G _ w hR _ fun e s a' w' G' hA hR' hq => ?_
 have hA' : Adv G w (G'.without q74) w' := ⟨hA.os, hA.tape, hA.output, hA.size, fun b hb ho => ⟨(hA.keep b hb ho).1, q47 G' b⟩⟩
 have hfin : ∀ {x : AVal} {v : Value}, x.stb = true → VR (Dm s.M) (G'.without q74) B w' x v → VR (Dm NoM) (G'.without q74) B w' x v := fun hs hx =>
  hx.stable (fun b _ hn _ => ⟨rfl, hn, q47 G' b⟩) hs
 have hret : ∀ xs ys, q4o E.TE s fn.results.toList = some xs → q0i xs = true → qeg xs ys → ∃ v, (results fn a'.tmps).run E.P w' = .ok v w' ∧ VR (Dm NoM) (G'.without q74) B w' (q75 ys) v := by
  intro xs ys hx hs hsub
  obtain ⟨v, e1, e2⟩ := z1l E.hT hR' hx hsub
  refine ⟨v, e1, hfin ?_ e2⟩
  have hs := qef hsub hs
  clear e2 hsub hx
  match ys, hs with
  | [], _ => rfl
  | [x], hs => simp only [q0i, Bool.and_true] at hs; exact hs
  | x :: y :: l, hs => exact hs
 cases e with
 | normal =>
  obtain ⟨xs, hx, hs, ys, hsub, rfl⟩ := hq
  obtain ⟨v, e1, e2⟩ := hret xs ys hx hs hsub
  exact ⟨hR'.defers, v, e1, G'.without q74, v, q47 G', hA', rfl, e2⟩
 | ret =>
  obtain ⟨xs, hx, hs, ys, hsub, rfl⟩ := hq
  obtain ⟨v, e1, e2⟩ := hret xs ys hx hs hsub
  exact ⟨hR'.defers, v, e1, G'.without q74, v, q47 G', hA', rfl, e2⟩
 | exit id => exact hq.elim
 | pan x =>
  intro v' hV
  obtain ⟨hs, rfl⟩ := hq
  exact ⟨hR'.defers, G'.without q74, v', q47 G', hA', rfl, hfin hs (qnz hR'.mem hV)⟩
end
def tyI (P : Program) (t : TypeId) : Option TyI :=
 match P.underlying t, P.info? t with
 | some d, some inf => match inf.zero with
  | some z => some ⟨TD.of d, inf.size, inf.bytes, z⟩
  | none => none
 | _, _ => none
def tyOf (l : List (Nat × TyI)) : TyE := fun t => (l.find? fun p => p.1 == t).map (·.2)
theorem tyOk_of {P : Program} {l : List (Nat × TyI)} (h : l.map (fun p => tyI P p.1) = l.map (fun p => some p.2)) (hz : l.all (fun p => p.2.zero.cells.size == p.2.size) = true) : q2r P (tyOf l) := by
 intro t i ht
 simp only [tyOf, Option.map_eq_some_iff] at ht
 obtain ⟨p, hp, rfl⟩ := ht
 have hm := List.mem_of_find?_eq_some hp
 have he : p.1 = t := by simpa using List.find?_some hp
 have h1 : tyI P p.1 = some p.2 := by
  obtain ⟨n, hn, rfl⟩ := List.getElem_of_mem hm
  have := congrArg (fun l => l[n]?) h
  simpa [hn] using this
 have h2 := List.all_eq_true.1 hz p hm
 subst he
 unfold tyI at h1
 cases hu : P.underlying p.1 with
 | none => simp [hu] at h1
 | some d =>
  cases hq : P.info? p.1 with
  | none => simp [hu, hq] at h1
  | some inf =>
   cases hr : inf.zero with
   | none => simp [hu, hq, hr] at h1
   | some z =>
    simp only [hu, hq, hr, Option.some.injEq] at h1
    rw [← h1] at h2 ⊢
    exact ⟨d, inf, rfl, rfl, rfl, rfl, rfl, hr, by simpa using h2⟩
def eqChk (P : Program) (t : TypeId) : Bool := !P.stoodInHeld t && !P.eqGuardType P.depth t && (P.fieldsOf t).toList.all fun f => f.name != "_"
theorem eqOk_of {P : Program} {l : List Nat} (h : l.all (eqChk P) = true) : ∀ t, l.contains t = true → EqOk P t := by
 intro t ht
 have := List.all_eq_true.1 h t (by simpa using ht)
 simp only [eqChk, Bool.and_eq_true, Bool.not_eq_true'] at this
 refine ⟨this.1.1, this.1.2, fun f hf hn => ?_⟩
 have := List.all_eq_true.1 this.2 f hf
 simp [hn] at this
theorem Wk.temps {n : Nat} {T T' : q12} {M : Mem} (h : ∀ t, T' t = T t ∨ T' t = .undef) : Wk n ⟨T, M⟩ ⟨T', M⟩ := fun B G a w hR =>
 ⟨G, ⟨hR.size, hR.defers, fun t => by
  show VR (Dm M) G B w (T' t) (a.tmps.getD t undef)
  rcases h t with e | e <;> rw [e]
  ·exact hR.temps t
  ·exact .undef _, hR.mem, hR.fr, hR.ol⟩, .refl G w⟩
def AVal.no (K : Nat → Bool) (x : AVal) : Bool :=
 match x with
 | .ptr k _ => !K k
 | .os k _ => !K k
 | .eptr k _ _ _ _ => !K k
 | .vw k _ _ _ _ => !K k
 | .mp k => !K k
 | x => x.stb
theorem VR.drop {K : Nat → Bool} {M : Mem} {G : Gh} {B : Nat → Prop} {w : World} {x : AVal} {v : Value} (h : VR (Dm M) G B w x v) (hn : x.no K = true) :
 VR (Dm fun k => if K k = true then none else M k) (G.without K) B w x v := by
 have hD : ∀ k e, K k = false → Dm M k e → Dm (fun k => if K k = true then none else M k) k e := fun k e hk hd => by
  simpa [Dm, hk] using hd
 cases x <;> simp only [AVal.no, Bool.not_eq_true'] at hn
 case ptr k off => cases h with | ptr _ _ hd => exact .ptr k off (hD _ _ hn hd)
 case mp k => cases h with | mp _ hd => exact .mp k (hD _ _ hn hd)
 case os k e => cases h with | os _ _ hd v hv => exact .os k e (hD _ _ hn hd) v hv
 case vw k e sz i m => cases h with | vw _ _ _ _ _ b o len cap hd hh hm => exact .vw k e sz i m b o len cap (hD _ _ hn hd) hh hm
 case eptr k e sz i off => cases h with | eptr _ _ _ _ _ b o len cap hd hh => exact .eptr k e sz i off b o len cap (hD _ _ hn hd) hh
 all_goals exact h.stable (fun b _ hb ho => ⟨rfl, hb, q1d ho⟩) hn
def AVal.noC (K : Nat → Bool) : AVal → Bool
 | .own _ xs => (flat xs).all fun y => y.no K
 | .hole => true
 | .ref _ => false
 | x => x.no K
theorem CellRel.drop {K : Nat → Bool} {M : Mem} {G : Gh} {B : Nat → Prop} {w : World} {k i : Nat} {x : AVal} {v : Value} (hk : K k = false) (h : CellRel (Dm M) G B w k i x v)
 (hn : x.noC K = true) :
 CellRel (Dm fun k => if K k = true then none else M k) (G.without K) B w k i x v := by
 have hkey : ∀ b, G.ow b = some (.cell k i) → (G.without K).ow b = some (.cell k i) := fun b hb => by simp [Gh.without, hb, OKey.of, hk]
 cases x <;> first | exact VR.drop h hn | exact trivial | (simp [AVal.noC] at hn; done) | skip
 case own sz xs =>
  rcases h with h | ⟨b, o, cap, c, el, h1, h2, h3, h4, h5, h6, h7, h7', h8⟩
  ·exact .inl h
  ·exact .inr ⟨b, o, cap, c, el, h1, h2, hkey b h3, h4, h5, h6, h7, h7', fun n y hy => let ⟨u, hu, hr⟩ := h8 n y hy; ⟨u, hu, hr.drop (List.all_eq_true.1 hn y (List.mem_of_getElem? hy))⟩⟩
def ABlk.no (K : Nat → Bool) : ABlk → Bool
 | .cells cs => cs.all fun x => x.noC K
 | .arr _ _ xs => (flat xs).all fun y => y.no K
 | .dead => true
 | .map es => es.all fun p => p.1.no K && p.2.no K
 | .note x _ => x.no K
theorem Wk.drop {n : Nat} {T : q12} {M M' : Mem} (K : Nat → Bool) (hT : ∀ t, (T t).no K = true) (hM : ∀ k blk, K k = false → M k = some blk → blk.no K = true) (hM' : M' = fun k => if K k = true then none else M k) : Wk n ⟨T, M⟩ ⟨T, M'⟩ := by
 subst hM'
 intro B G a w hR
 refine ⟨G.without K, ⟨hR.size, hR.defers, fun t => (hR.temps t).drop (hT t), fun k blk hk => ?_, fun b hb => ⟨(hR.fr b hb).1, q1d (hR.fr b hb).2⟩, fun b hb => hR.ol b fun hn => hb (q1d hn)⟩,
  ⟨⟨rfl, Nat.le_refl _⟩, rfl, rfl, Nat.le_refl _, fun b _ ho => ⟨rfl, q1d ho⟩⟩⟩
 by_cases hK : K k = true
 ·simp [hK] at hk
 ·have hK' : K k = false := by simpa using hK
  simp only [hK', Bool.false_eq_true, if_false] at hk
  have hb := hM k blk hK' hk
  have h0 := hR.mem k blk hk
  cases blk with
  | cells cs =>
   obtain ⟨c, el, b1, b2, b3, b4, b5⟩ := h0
   refine ⟨c, el, by simp [Gh.without, b1, OKey.of, hK'], b2, b3, b4, fun i x hx => ?_⟩
   obtain ⟨u, hu, hr⟩ := b5 i x hx
   exact ⟨u, hu, hr.drop hK' (List.all_eq_true.1 hb x (List.mem_of_getElem? hx))⟩
  | arr e sz xs =>
   rcases h0 with h | ⟨b, o, cap, c, el, h1, h2, h3, h4, h5, h6, h7, h7', h8⟩
   ·exact .inl h
   ·exact .inr ⟨b, o, cap, c, el, h1, h2, by simp [Gh.without, h3, OKey.of, hK'], h4, h5, h6, h7, h7', fun n y hy => let ⟨u, hu, hr⟩ := h8 n y hy; ⟨u, hu, hr.drop (List.all_eq_true.1 hb y (List.mem_of_getElem? hy))⟩⟩
  | dead => trivial
  | map es =>
   obtain ⟨es', clock, b1, b2, b3, b4, b5⟩ := h0
   refine ⟨es', clock, by simp [Gh.without, b1, OKey.of, hK'], b2, b3, b4, fun i p hp => ?_⟩
   obtain ⟨q, hq, r1, r2⟩ := b5 i p hp
   have := List.all_eq_true.1 hb p (List.mem_of_getElem? hp)
   rw [Bool.and_eq_true] at this
   exact ⟨q, hq, r1.drop this.1, r2.drop this.2⟩
  | note x v => exact VR.drop h0 hb

def Ex.andThen (next : (Ex → AS → Prop) → AS → Prop) (Q : Ex → AS → Prop) : Ex → AS → Prop
 | .normal, s => next Q s
 | e, s => Q e s

def FnB (p sz : Nat) (t : Tmp) (ys : List AVal) : Ex → AS → Prop
 | .normal, s => ∃ e, s.T t = .os p e ∧ s.M p = some (.arr e sz ys) ∧ q0i ys = true
 | .ret, s => ∃ e, s.T t = .os p e ∧ s.M p = some (.arr e sz ys) ∧ q0i ys = true
 | _, _ => False
def qfh (args : List AVal) (p sz : Nat) (xs : List AVal) : AS := ⟨upd (q41 args) p (.os p 0), upd NoM p (some (.arr 0 sz xs))⟩
theorem EvOwn.of_body {E : Env} {f : FuncId} {n : Nat} {t : Tmp} {sc : SC} (hf : FnIs E.P f n [.tmp t] sc) {args : List AVal} {p sz : Nat} {xs ys : List AVal} (hl : args.length ≤ n)
 (h : AW E n sc (FnB p sz t ys) (qfh args p sz xs)) : EvOwn E.P f args p sz xs true .undef ys := by
 obtain ⟨fn, c, h1, h2, h3, rfl, h5, h6⟩ := hf
 refine ⟨⟨fn, h1, h2, by simp [h3]⟩, fun B w vs G hG hsz hv hvp hB hol => ?_⟩
 obtain ⟨vp, hvp, hown⟩ := hvp
 have hpl : p < vs.size := by
  rcases Nat.lt_or_ge p vs.size with h' | h'
  ·exact h'
  ·rw [Array.getElem?_eq_none h'] at hvp; cases hvp
 refine calls_of_wp h1 h3 ?_
 let G0 : Gh := G.setHd p 0 vp hown.one G.ow
 have hD : Dm (upd NoM p (some (.arr 0 sz xs))) p 0 := by simp [Dm, q00]
 have hmono : ∀ {x : AVal} {u : Value}, VR (Dm NoM) G B w x u → VR (Dm (upd NoM p (some (.arr 0 sz xs)))) G0 B w x u := fun hr =>
  VR.mono (D := Dm NoM) (G := G) (G' := G0) (w := w) (w' := w) (B := B) (fun _ _ h => absurd h qd8) (fun _ _ h => absurd h qd8) (fun b _ hn ho => ⟨rfl, hn, ho⟩) hr
 have hR : Rel fn.ntmps B G0 (qfh args p sz xs) { tmps := vs ++ Array.replicate (fn.ntmps - vs.size) undef, defers := [] } w := by
  have hget : ∀ t, t < vs.size → (vs ++ Array.replicate (fn.ntmps - vs.size) undef).getD t undef = vs.getD t undef := fun t ht => by
   rw [Array.getD_eq_getD_getElem?, Array.getElem?_append_left ht, Array.getD_eq_getD_getElem?]
  refine ⟨by simp; omega, rfl, fun t => ?_, fun k blk hk => ?_, hB, hol⟩
  ·simp only [qfh]
   by_cases htp : t = p
   ·subst htp
    rw [q00]
    refine .os _ 0 hD _ ?_
    rw [hget _ hpl, Array.getD_eq_getD_getElem?, hvp]
    exact q2n.symm
   ·rw [q0h _ _ htp]
    simp only [q41]
    cases ht : args[t]? with
    | none => exact .undef _
    | some x =>
     have hlt : t < vs.size := by
      rw [hsz]
      rcases Nat.lt_or_ge t args.length with h' | h'
      ·exact h'
      ·rw [List.getElem?_eq_none h'] at ht; cases ht
     simp only [Option.getD_some]
     rw [hget t hlt, Array.getD_eq_getD_getElem?]
     have e : vs[t]? = some vs[t] := by simp [hlt]
     rw [e]
     exact hmono (hv t x _ htp ht e)
  ·simp only [qfh] at hk
   by_cases hkp : k = p
   ·subst hkp
    simp only [q00, Option.some.injEq] at hk
    subst hk
    show OwnAt _ G0 B w (.arr k) sz xs (G0.hd k 0)
    rw [show G0.hd k 0 = vp from q2n]
    exact OwnAt.trade (D := Dm NoM) (G := G) (B := B) (fun b hb ho => ⟨hb, ho⟩) (fun x _ u hr => hmono hr) hown
   ·rw [q0h _ _ hkp] at hk
    simp [NoM] at hk
 have hA0 : Adv G w G0 w := ⟨⟨rfl, Nat.le_refl _⟩, rfl, rfl, Nat.le_refl _, fun b hb ho => ⟨rfl, ho⟩⟩
 refine h c h6 B G0 _ w hR _ fun e s a' w' G' hA hR' hq => ?_
 have hret : ∀ e, s.T t = .os p e → s.M p = some (.arr e sz ys) → q0i ys = true → a'.defers = [] ∧ ∃ v, (results fn a'.tmps).run E.P w' = .ok v w' ∧ ∃ (G1 : Gh) (v' u : Value), Ending.returned v = .returned v' ∧ (∀ b key, G1.ow b = some key → key = .arr p) ∧
  (∀ b, G1.ow b ≠ none → b < w'.heap.size) ∧ Adv G w G1 w' ∧ OwnAt (Dm NoM) G1 B w' (.arr p) sz ys u ∧ (true = true → v' = u) ∧ (true = false → vs[p]? = some u ∧ VR (Dm NoM) G1 B w' .undef v') := by
  intro e e1 e2 e3
  let G1 : Gh := { G' with ow := fun b => if G'.ow b = some (.arr p) then some (.arr p) else none }
  have hv := hR'.temps t
  rw [e1] at hv
  have hval : a'.tmps.getD t undef = G'.hd p e := by generalize a'.tmps.getD t undef = q at hv; cases hv with | os _ _ _ v hv => exact hv
  have hb : OwnAt (Dm s.M) G' B w' (.arr p) sz ys (G'.hd p e) := hR'.mem p _ e2
  refine ⟨hR'.defers, G'.hd p e, ?_, G1, G'.hd p e, G'.hd p e, rfl, fun b key hk => ?_, fun b hb' => ?_, ?_, ?_, fun _ => rfl, fun hh => by cases hh⟩
  ·have hr : fn.results = #[.tmp t] := by rw [← Array.toList_inj]; simpa using h5
   unfold results
   rw [hr]
   simp only [Sem.run_bind]
   simp [← hval, Array.mapM_eq_mapM_toList]
  ·simp only [G1] at hk
   split at hk
   ·exact (Option.some.inj hk).symm
   ·cases hk
  ·refine hR'.ol b fun hn => hb' ?_
   simp [G1, hn]
  ·have hA1 := hA0.trans hA
   exact ⟨hA1.os, hA1.tape, hA1.output, hA1.size, fun b hb ho => ⟨(hA1.keep b hb ho).1, by simp [G1, (hA1.keep b hb ho).2]⟩⟩
  ·refine hb.trade (fun b hb ho => ⟨hb, by simp [G1, ho]⟩) (fun x hx u hr => ?_)
   exact hr.stable (fun b _ hn ho => ⟨rfl, hn, by simp [G1, ho]⟩) (q2j e3 x hx)
 cases e with
 | normal => obtain ⟨e, e1, e2, e3⟩ := hq; exact hret e e1 e2 e3
 | ret => obtain ⟨e, e1, e2, e3⟩ := hq; exact hret e e1 e2 e3
 | exit id => exact hq.elim
 | pan x => exact hq.elim
theorem Wk.own_nil {n : Nat} {T : q12} {M : Mem} (t k sz : Nat) (ht : T t = .nil) (hk : M k = none) : Wk n ⟨T, M⟩ ⟨upd T t (.os k 0), upd M k (some (.arr 0 sz []))⟩ := by
 intro B G a w hR
 obtain ⟨G', hA, hR', hh⟩ := hR.nil_arr (k := k) (e := 0) (.inl hk) sz
 refine ⟨G', ⟨hR'.size, hR'.defers, fun u => ?_, hR'.mem, hR'.fr, hR'.ol⟩, hA⟩
 show VR _ G' B w (upd T t (.os k 0) u) _
 by_cases hu : u = t
 ·subst hu
  rw [q00]
  have hv := hR.temps u
  simp only [ht] at hv
  refine .os k 0 (by simp [Dm, q00]) _ ?_
  rw [hh]
  generalize a.tmps.getD u undef = q at hv
  cases hv
  rfl
 ·rw [q0h _ _ hu]
  exact hR'.temps u

section
inductive Kont where
 | done
 | seq (y : SC) (k : Kont)
 | block (id : Nat) (k : Kont)
def KQ (E : Env) (n : Nat) (Q : Ex → AS → Prop) : Kont → Ex → AS → Prop
 | .done => Q
 | .seq y k => Ex.then (AW E n y (KQ E n Q k)) (KQ E n Q k)
 | .block id k => Ex.inBlock id (KQ E n Q k)
def Run (E : Env) (n : Nat) (Q : Ex → AS → Prop) (x : SC) (k : Kont) (s : AS) : Prop := AW E n x (KQ E n Q k) s
def Fin (E : Env) (n : Nat) (Q : Ex → AS → Prop) (k : Kont) (e : Ex) (s : AS) : Prop := KQ E n Q k e s
section
variable {E : Env} {n : Nat} {Q : Ex → AS → Prop} {k : Kont} {s : AS} {x y : SC}
theorem Run.start (h : Run E n Q x .done s) : AW E n x Q s := h
theorem Run.skip (h : Fin E n Q k .normal s) : Run E n Q .skip k s := AW.skip h
theorem Run.ret (h : Fin E n Q k .ret s) : Run E n Q .ret k s := AW.ret h
theorem Run.exit {id : Nat} (h : Fin E n Q k (.exit id) s) : Run E n Q (.exit id) k s := AW.exit h
theorem Run.seq (h : Run E n Q x (.seq y k) s) : Run E n Q (.seq x y) k s := AW.seq h
theorem Run.block {id : Nat} (h : Run E n Q x (.block id k) s) : Run E n Q (.block id x) k s := AW.block h
theorem Run.cond {o : Operand} (b : Bool) (hb : ev s.T o = .bool b) (ht : b = true → Run E n Q x k s) (hf : b = false → Run E n Q y k s) : Run E n Q (.cond o x y) k s := AW.cond hb ht hf
theorem Run.ops {d : Bool} {l : List SOp} (h : q06 E d none (KQ E n Q k) l s) : Run E n Q (.ops d l) k s := AW.ops h
theorem Run.opsW (K : Nat → Bool) {ws : List Nat} {l : List SOp} (h : q06 E true (some (ws, K)) (KQ E n Q k) l s) : Run E n Q (.opsW ws l) k s := AW.opsW K h
theorem Run.wk {s' : AS} (hw : Wk n s s') (h : Run E n Q x k s') : Run E n Q x k s := AW.wk hw h
theorem Run.loop (I : Nat → AS → Prop) {m0 : Nat} (h0 : I m0 s) (round : ∀ m s, I m s → AW E n x (Ex.then (fun s' => ∃ m' s'', m' < m ∧ Wk n s' s'' ∧ I m' s'') (KQ E n Q k)) s) : Run E n Q (.loop x) k s := AW.loop I h0 round
theorem Fin.done {e : Ex} (h : Q e s) : Fin E n Q .done e s := h
theorem Fin.seq (h : Run E n Q y k s) : Fin E n Q (.seq y k) .normal s := h
theorem Fin.seq_ret (h : Fin E n Q k .ret s) : Fin E n Q (.seq y k) .ret s := h
theorem Fin.seq_exit {id : Nat} (h : Fin E n Q k (.exit id) s) : Fin E n Q (.seq y k) (.exit id) s := h
theorem Fin.block {id : Nat} (h : Fin E n Q k .normal s) : Fin E n Q (.block id k) .normal s := h
theorem Fin.block_ret {id : Nat} (h : Fin E n Q k .ret s) : Fin E n Q (.block id k) .ret s := h
theorem Fin.block_exit {id : Nat} (h : Fin E n Q k .normal s) : Fin E n Q (.block id k) (.exit id) s := by
 show (if id = id then _ else _)
 rw [if_pos rfl]; exact h
theorem Fin.block_other {id id' : Nat} (hne : (id' == id) = false) (h : Fin E n Q k (.exit id') s) : Fin E n Q (.block id k) (.exit id') s := by
 show (if id' = id then _ else _)
 rw [if_neg (by simpa using hne)]; exact h
theorem Fin.tmp {t : Tmp} {T : q12} {M : Mem} {x y : AVal} (h : fz q74 M (T t) = x) (hs : x.stb = true) (hsub : sub1 x y) : Fin E n (FnQ E.TE [.tmp t] (.ret y)) .done .ret ⟨T, M⟩ :=
 ⟨[x], by simp [q4o, q86, h], by simp [q0i, hs], [y], ⟨hsub, trivial⟩, rfl⟩
theorem Fin.tmp' {t : Tmp} {T : q12} {M : Mem} {x : AVal} (h : fz q74 M (T t) = x) (hs : x.stb = true) : Fin E n (FnQ E.TE [.tmp t] (.ret x)) .done .ret ⟨T, M⟩ := Fin.tmp h hs (.inl rfl)
theorem Fin.nil {t : Tmp} {T : q12} {M : Mem} {sz : Nat} (h : T t = .nil) : Fin E n (FnQ E.TE [.tmp t] (.ret (.sl sz []))) .done .ret ⟨T, M⟩ := Fin.tmp (x := .nil) (by rw [h]; rfl) rfl (.inr ⟨rfl, sz, rfl⟩)
theorem Fin.two {t u : Tmp} {T : q12} {M : Mem} {x x' y y' : AVal} (h : fz q74 M (T t) = x) (hs : x.stb = true) (h' : fz q74 M (T u) = x') (hs' : x'.stb = true) (hsub : sub1 x y) (hsub' : sub1 x' y') : Fin E n (FnQ E.TE [.tmp t, .tmp u] (.ret (.tup [y, y']))) .done .ret ⟨T, M⟩ :=
 ⟨[x, x'], by simp [q4o, q86, h, h'], by simp [q0i, hs, hs'], [y, y'], ⟨hsub, hsub', trivial⟩, rfl⟩
theorem Fin.all {rs : List ResultVar} {xs : List AVal} {y : AVal} (h : q4o E.TE s rs = some xs) (hs : q0i xs = true) (hy : y = q75 xs) : Fin E n (FnQ E.TE rs (.ret y)) .done .ret s :=
 ⟨xs, h, hs, xs, q1p xs, by rw [hy]⟩
end
section
variable {E : Env} {d : Bool} {RK : Option (List Nat × (Nat → Bool))} {Q : Ex → AS → Prop} {r : List SOp} {T : q12} {M : Mem} {s : AS} {dst : Option Tmp} {op : Op}
def q7o : Op → Bool
 | .call ⟨.value _, _, _⟩ => false
 | .panic _ => false
 | _ => true
def dchk (d : Bool) (RK : Option (List Nat × (Nat → Bool))) (dst : Option Tmp) (op : Op) (T : q12) (ups : List (Nat × ABlk)) : Bool :=
 (!d || q7q (RK.map (·.1)) dst op != .r || ups.isEmpty) && qmg RK dst op T
theorem ze7 {dst : Option Tmp} {op : Op} {T : q12} {ups : List (Nat × ABlk)} : dchk false none dst op T ups = true := rfl
theorem step_of {v : AVal} {ups : List (Nat × ABlk)} (hp : q7o op = true) (h : opS E.TE E.EQ s dst op = some (v, ups)) (hc : dchk d RK dst op s.T ups = true)
 {g : Option (Option Tmp × Bool)} {K : AS → Prop} (k : K (AS.put ⟨s.T, ap s.M ups⟩ dst v)) : stepS E d RK ⟨dst, op, g⟩ s Q K := by
 unfold dchk at hc
 simp only [Bool.and_eq_true] at hc
 have hc1 : d = true → q7q (RK.map (·.1)) dst op = .r → ups = [] := fun hd hr => by
  have := hc.1
  simpa [hd, hr] using this
 refine .inl ?_
 unfold stepM
 split
 ·rename_i ho
  simp only at ho
  rw [ho] at hp
  simp [q7o] at hp
 ·rename_i ho
  simp only at ho
  rw [ho] at hp
  simp [q7o] at hp
 ·simp only [h]
  exact ⟨⟨hc1, hc.2⟩, k⟩
theorem awp_nilK {n : Nat} {Q : Ex → AS → Prop} {k : Kont} (h : Fin E n Q k .normal s) : q06 E d RK (KQ E n Q k) [] s := h
theorem awp_op {v : AVal} {ups : List (Nat × ABlk)} (hp : q7o op = true) (h : opS E.TE E.EQ ⟨T, M⟩ dst op = some (v, ups)) (hc : dchk d RK dst op T ups = true)
 (k : q06 E d RK Q r (AS.put ⟨T, ap M ups⟩ dst v)) : q06 E d RK Q (⟨dst, op, none⟩ :: r) ⟨T, M⟩ := step_of hp h hc k
theorem q8x {t : Option Tmp} {x : Operand} {args : Array Operand} {ts : Array TypeId} (h : qoh E.P d RK ⟨T, M⟩ x args (callK (q06 E d RK Q r) T t) (callQ Q T)) :
 q06 E d RK Q (⟨t, .call ⟨.value x, args, ts⟩, none⟩ :: r) ⟨T, M⟩ := .inl h
theorem q4r {t : Tmp} {x : Operand} {args : Array Operand} {ts : Array TypeId} {f : FuncId} {caps l : List AVal} {v : AVal} (hf : ev T x = .fn f caps)
 (hl : (evs T args.toList ++ caps).map (fz (fun _ => false) M) = l) (hs : q0i l = true) (he : Ev E.P f l (.ret v)) (k : q06 E d RK Q r ⟨upd T t v, M⟩) :
 q06 E d RK Q (⟨some t, .call ⟨.value x, args, ts⟩, none⟩ :: r) ⟨T, M⟩ := q8x (z2g hf hl hs he k)
theorem q73 {t : Tmp} {x : Operand} {args : Array Operand} {ts : Array TypeId} (K : Nat → Bool) {f : FuncId} {caps l : List AVal} {v : AVal} (hf : ev T x = .fn f caps)
 (hl : (evs T args.toList ++ caps).map (fz K M) = l) (hs : q0i l = true) (he : Ev E.P f l (.ret v)) (hv : v.flt = true) (hr : RK = none) (k : q06 E d RK Q r ⟨upd T t v, M⟩) :
 q06 E d RK Q (⟨some t, .call ⟨.value x, args, ts⟩, none⟩ :: r) ⟨T, M⟩ :=
 q8x (qcl K hf hl hs he ⟨fun _ => .inl hv, fun h => by rw [hr] at h; cases h⟩ (by rw [if_pos hv]; exact k))
theorem awp_give {t : Tmp} {x : Operand} {args : Array Operand} {ts : Array TypeId} (K : Nat → Bool) {f : FuncId} {caps l : List AVal} {v : AVal} (hf : ev T x = .fn f caps)
 (hl : (evs T args.toList ++ caps).map (fz K M) = l) (hs : q0i l = true) (he : Ev E.P f l (.ret v)) (hv : v.flt = false) (k : q06 E false none Q r ⟨upd T t v, kill K M⟩) :
 q06 E false none Q (⟨some t, .call ⟨.value x, args, ts⟩, none⟩ :: r) ⟨T, M⟩ :=
 q8x (qcl K hf hl hs he ⟨fun h => absurd h (by simp), fun h => absurd h (by simp)⟩ (by rw [if_neg (by rw [hv]; simp)]; exact k))
theorem z11 {t : Tmp} {x : Operand} {args : Array Operand} {ts : Array TypeId} (p j : Nat) {f : FuncId} {e sz : Nat} {xs args' ys : List AVal} (hf : ev T x = .fn f []) (hp : (evs T args.toList)[p]? = some (.os j e))
 (hk : M j = some (.arr e sz xs)) (ha : ((evs T args.toList).map (fz (fun _ => false) M)).set p .undef = args') (hst : q0i args' = true) (hxs : q0i xs = true) (hys : q0i ys = true)
 (he : EvOwn E.P f args' p sz xs true .undef ys) (k : q06 E false none Q r ⟨upd T t (.os j (e + 1)), upd M j (some (.arr (e + 1) sz ys))⟩) :
 q06 E false none Q (⟨some t, .call ⟨.value x, args, ts⟩, none⟩ :: r) ⟨T, M⟩ := q8x (z2h p j hf hp hk ha hst hxs hys he k)
theorem awp_turn {t : Tmp} {x : Operand} {args : Array Operand} {ts : Array TypeId} (p j : Nat) {f : FuncId} {e sz : Nat} {xs args' ys : List AVal} {v : AVal} (hf : ev T x = .fn f []) (hp : (evs T args.toList)[p]? = some (.os j e))
 (hk : M j = some (.arr e sz xs)) (ha : ((evs T args.toList).map (fz (fun _ => false) M)).set p .undef = args') (hst : q0i args' = true) (hxs : q0i xs = true) (hys : q0i ys = true) (hr : v.stb = true)
 (he : EvOwn E.P f args' p sz xs false v ys) (k : q06 E false none Q r ⟨upd T t v, upd M j (some (.arr e sz ys))⟩) :
 q06 E false none Q (⟨some t, .call ⟨.value x, args, ts⟩, none⟩ :: r) ⟨T, M⟩ := q8x (qg5 p j hf hp hk ha hst hxs hys hr he k)
theorem q2e {posts : AVal → Mem → Prop} (h : Hook E.P ⟨T, M⟩ op posts) (k : ∀ v M', posts v M' → q06 E false none Q r (AS.put ⟨T, M'⟩ dst v)) : q06 E false none Q (⟨dst, op, none⟩ :: r) ⟨T, M⟩ :=
 .inr (.inl ⟨rfl, posts, fun _ _ => False, h.toP, k, fun _ _ hf => hf.elim⟩)
theorem q8w {posts pans : AVal → Mem → Prop} (h : zeo E.P ⟨T, M⟩ op posts pans) (k : ∀ v M', posts v M' → q06 E false none Q r (AS.put ⟨T, M'⟩ dst v)) (kp : ∀ v M', pans v M' → Q (.pan v) ⟨T, M'⟩) : q06 E false none Q (⟨dst, op, none⟩ :: r) ⟨T, M⟩ :=
 .inr (.inl ⟨rfl, posts, pans, h, k, kp⟩)
theorem awp_new {t : Tmp} {x : Operand} {args : Array Operand} {ts : Array TypeId} {f : FuncId} {caps l cs : List AVal} (hf : ev T x = .fn f caps)
 (hl : (evs T args.toList ++ caps).map (fz (fun _ => false) M) = l) (hs : q0i l = true) (he : EvNew E.P f l cs) (hM : M t = none) (k : q06 E d none Q r ⟨upd T t (.ptr t 0), upd M t (some (.cells cs))⟩) :
 q06 E d none Q (⟨some t, .call ⟨.value x, args, ts⟩, none⟩ :: r) ⟨T, M⟩ :=
 .inr (.inr (.inl ⟨rfl, x, args, ts, f, caps, _, _, t, rfl, hf, by rw [hl]; exact hs, by rw [hl]; exact .inl ⟨cs, rfl, rfl, he⟩, rfl, hM, k⟩))
theorem zek {t : Tmp} {x : Operand} {args : Array Operand} {ts : Array TypeId} {f : FuncId} {caps l xs : List AVal} {sz : Nat} (hf : ev T x = .fn f caps)
 (hl : (evs T args.toList ++ caps).map (fz (fun _ => false) M) = l) (hs : q0i l = true) (he : EvFresh E.P f l sz xs) (hM : M t = none) (k : q06 E d none Q r ⟨upd T t (.os t 0), upd M t (some (.arr 0 sz xs))⟩) :
 q06 E d none Q (⟨some t, .call ⟨.value x, args, ts⟩, none⟩ :: r) ⟨T, M⟩ :=
 .inr (.inr (.inl ⟨rfl, x, args, ts, f, caps, _, _, t, rfl, hf, by rw [hl]; exact hs, by rw [hl]; exact .inr ⟨sz, xs, rfl, rfl, he⟩, rfl, hM, k⟩))
theorem Hook.nil_eq {P : Program} {TE : TyE} (hT : q2r P TE) {t u : TypeId} {x : Operand} {sz : Nat} {e : TypeId} {s1 b1 : Nat} {z : Value} (ht : TE t = some ⟨.slice e, s1, b1, z⟩) (hx : ev s.T x = .sl sz []) :
 Hook P s (.binOp .eql t x (.const (.slice none 0 0)) u) (fun v M' => M' = s.M ∧ ∃ b, v = .bool b) := by
 intro n B G a w hR o ho K Q hK
 have hv := hR.ev x
 rw [hx] at hv
 obtain ⟨b0, hrun⟩ : ∃ b, (execOp a.eval o).run P w = .ok (.value (.bool b)) w := by
  unfold execOp
  rw [ho]
  obtain ⟨d, inf, q1, q2, _⟩ := hT t _ ht
  have hs : ∃ base len cap, a.eval x = .slice base len cap := by
   generalize a.eval x = q at hv
   cases hv with
   | slnil => exact ⟨_, _, _, rfl⟩
   | slemp => exact ⟨_, _, _, rfl⟩
   | sl _ _ b off cap f _ _ _ _ _ _ => exact ⟨_, _, _, rfl⟩
  obtain ⟨base, len, cap, hs⟩ := hs
  have hd : d = .slice e := by cases d <;> simp [TD.of] at q2; rw [q2]
  subst hd
  have hc : a.eval (.const (.slice none 0 0)) = .slice none 0 0 := rfl
  have hb : ∃ r, (Op.equalIn (9999 + 1) t (.slice base len cap) (.slice none 0 0)).run P w = .ok r w := by
   cases base with
   | none => exact ⟨true, eqS q1 w _ _ _ _ _ _ _ _ (.inl ⟨rfl, rfl⟩)⟩
   | some q => exact ⟨false, eqS q1 w _ _ _ _ _ _ _ _ (.inr ⟨rfl, rfl, rfl⟩)⟩
  obtain ⟨r, hr⟩ := hb
  obtain ⟨g1, _⟩ := q3t (t := t) (ox := x) (oy := .const (.slice none 0 0)) (x' := .slice base len cap) (y' := .slice none 0 0) (fun op => by cases op <;> rfl) rfl rfl hr
  refine ⟨r, ?_⟩
  simp only [hs, hc]
  rw [Sem.run_bind, g1]
  rfl
 unfold Oper.wp
 rw [hrun]
 exact hK (.bool b0) (.bool b0) s.M w G ⟨rfl, b0, rfl⟩ (.refl G w) hR (.bool b0)
end
end
section
def tms : List (Nat × AVal) → q12
 | [] => fun _ => .undef
 | (k, v) :: r => upd (tms r) k v
theorem z36 {T : q12} : ∀ {l : List (Nat × AVal)}, (∀ p ∈ l, T p.1 = p.2) → ∀ t, tms l t = T t ∨ tms l t = .undef
 | [], _, t => .inr rfl
 | (k, v) :: r, h, t => by
  simp only [tms]
  by_cases ht : t = k
  ·subst ht
   rw [q00]
   exact .inl (h (t, v) (by simp)).symm
  ·rw [q0h _ _ ht]
   exact z36 (fun p hp => h p (by simp [hp])) t
theorem tms_no {K : Nat → Bool} : ∀ {l : List (Nat × AVal)}, (∀ p ∈ l, p.2.no K = true) → ∀ t, (tms l t).no K = true
 | [], _, t => rfl
 | (k, v) :: r, h, t => by
  simp only [tms]
  by_cases ht : t = k
  ·subst ht
   rw [q00]
   exact h (t, v) (by simp)
  ·rw [q0h _ _ ht]
   exact tms_no (fun p hp => h p (by simp [hp])) t
def allT (T : q12) : List (Nat × AVal) → Prop
 | [] => True
 | (k, v) :: r => T k = v ∧ allT T r
theorem qol {T : q12} : ∀ {l : List (Nat × AVal)}, allT T l → ∀ p ∈ l, T p.1 = p.2
 | [], _, p, hp => by cases hp
 | (k, v) :: r, h, p, hp => by
  rcases List.mem_cons.1 hp with rfl | hp
  ·exact h.1
  ·exact qol h.2 p hp
def z2n (K : Nat → Bool) : List (Nat × AVal) → Prop
 | [] => True
 | (_, v) :: r => v.no K = true ∧ z2n K r
theorem z15 {K : Nat → Bool} : ∀ {l : List (Nat × AVal)}, z2n K l → ∀ p ∈ l, p.2.no K = true
 | [], _, p, hp => by cases hp
 | (k, v) :: r, h, p, hp => by
  rcases List.mem_cons.1 hp with rfl | hp
  ·exact h.1
  ·exact z15 h.2 p hp
theorem q27 {K : Nat → Bool} {x : AVal} (h : x.stb = true) : x.no K = true := by
 cases x <;> first | exact h | (simp [AVal.stb] at h)
theorem Wk.to {n : Nat} {T : q12} {M M' : Mem} (K : Nat → Bool) (l : List (Nat × AVal)) (h : allT T l) (hn : z2n K l) (hM : ∀ k blk, K k = false → M k = some blk → blk.no K = true)
 (hM' : M' = fun k => if K k = true then none else M k) : Wk n ⟨T, M⟩ ⟨tms l, M'⟩ :=
 (Wk.temps (z36 (qol h))).trans (Wk.drop K (tms_no (z15 hn)) hM hM')
theorem Wk.clean {n : Nat} {T : q12} {M : Mem} (l : List (Nat × AVal)) (h : allT T l) (hn : z2n (fun _ => true) l) : Wk n ⟨T, M⟩ ⟨tms l, NoM⟩ :=
 Wk.to (fun _ => true) l h hn (fun k blk hk => by cases hk) (by funext k; simp [NoM])
theorem Wk.keep {n : Nat} {T : q12} {M : Mem} (l : List (Nat × AVal)) (h : allT T l) : Wk n ⟨T, M⟩ ⟨tms l, M⟩ := Wk.temps (z36 (qol h))
def mms : List (Nat × ABlk) → Mem
 | [] => NoM
 | (k, v) :: r => upd (mms r) k (some v)
def allM (M : Mem) : List (Nat × ABlk) → Prop
 | [] => True
 | (k, v) :: r => M k = some v ∧ allM M r
def blkNo (K : Nat → Bool) : List (Nat × ABlk) → Prop
 | [] => True
 | (_, v) :: r => v.no K = true ∧ blkNo K r
def z2t : List (Nat × ABlk) → Nat → Bool
 | [], _ => true
 | (j, _) :: r, k => !(k == j) && z2t r k
theorem zcu {M : Mem} : ∀ {l : List (Nat × ABlk)}, allM M l → ∀ k, mms l k = if z2t l k = true then none else M k
 | [], _, k => by simp [mms, z2t, NoM]
 | (j, b) :: r, h, k => by
  simp only [mms, z2t]
  by_cases hk : k = j
  ·subst hk
   simp [q00, h.1]
  ·rw [q0h _ _ hk, zcu h.2 k]
   simp [hk]
theorem z10 {K : Nat → Bool} {M : Mem} : ∀ {l : List (Nat × ABlk)}, allM M l → blkNo K l → ∀ k blk, z2t l k = false → M k = some blk → blk.no K = true
 | [], _, _, k, blk, h, _ => by simp [z2t] at h
 | (j, b) :: r, hm, hn, k, blk, h, hk => by
  by_cases hkj : k = j
  ·subst hkj
   rw [hm.1] at hk
   cases hk
   exact hn.1
  ·refine z10 hm.2 hn.2 k blk ?_ hk
   simpa [z2t, hkj] using h
theorem Wk.toL {n : Nat} {T : q12} {M : Mem} (l : List (Nat × AVal)) (m : List (Nat × ABlk)) (h : allT T l) (hm : allM M m) (hn : z2n (z2t m) l) (hb : blkNo (z2t m) m) : Wk n ⟨T, M⟩ ⟨tms l, mms m⟩ :=
 Wk.to (z2t m) l h hn (fun k blk hk hM => z10 hm hb k blk hk hM) (funext fun k => zcu hm k)
theorem Wk.own_cells {n : Nat} {T : q12} {M : Mem} {k : Nat} {cs cs' : List AVal} (hk : M k = some (.cells cs)) (hl : cs'.length = cs.length) (h : ∀ (i : Nat) (x y : AVal), cs[i]? = some x → cs'[i]? = some y → y = x ∨ (x = .nil ∧ ∃ sz, y = .own sz [])) :
 Wk n ⟨T, M⟩ ⟨T, upd M k (some (.cells cs'))⟩ := by
 intro B G a w hR
 obtain ⟨c, el, b1, b2, b3, b4, b5⟩ := hR.mem k _ hk
 have hA : Adv G w G w := .refl G w
 refine ⟨G, hR.update hA k (.cells cs') (by show qmm (M k) _; rw [hk]; trivial) (fun _ _ _ => ⟨rfl, rfl⟩) (fun b key _ _ ho _ => ⟨rfl, ho⟩) hR.ol ?_, hA⟩
 have hD : ∀ j e, Dm M j e → Dm (upd M k (some (.cells cs'))) j e := fun j e => q35 (by rw [hk]; trivial)
 have hw : ∀ b, b < w.heap.size → ¬ B b → G.ow b = none → w.heap[b]? = w.heap[b]? ∧ ¬ B b ∧ G.ow b = none := fun b _ hn ho => ⟨rfl, hn, ho⟩
 refine ⟨c, el, b1, b2, b3, by rw [b4, hl], fun i y hy => ?_⟩
 have hlt : i < cs.length := by
  rw [← hl]
  rcases Nat.lt_or_ge i cs'.length with h' | h'
  ·exact h'
  ·rw [List.getElem?_eq_none h'] at hy; cases hy
 obtain ⟨u, hu, hr⟩ := b5 i cs[i] (by simp [hlt])
 refine ⟨u, hu, ?_⟩
 rcases h i cs[i] y (by simp [hlt]) hy with he | ⟨he, sz, rfl⟩
 ·rw [he]
  generalize cs[i] = x at hr
  cases x with
  | own sz xs => exact OwnAt.mono hD (fun _ _ _ => ⟨rfl, rfl⟩) hw (fun b _ hb2 hb3 => ⟨rfl, hb2, hb3⟩) hr
  | hole => trivial
  | _ => exact VR.mono hD (fun _ _ _ => ⟨rfl, rfl⟩) hw hr
 ·rw [he] at hr
  have hu' : u = .slice none 0 0 := by
   have hr' : VR (Dm M) G B w .nil u := hr
   cases hr'
   rfl
  exact .inl ⟨hu', rfl⟩
def z2o (n : Nat) (s2 : AS) (Q : Ex → AS → Prop) : Ex → AS → Prop := Ex.then (fun s' => Wk n s' s2) Q
section
variable {E : Env} {n : Nat} {Q : Ex → AS → Prop} {k : Kont} {s : AS} {x : SC}
theorem Fin.next {s2 : AS} {Q' : Ex → AS → Prop} (h : Wk n s s2) : Fin E n (z2o n s2 Q') .done .normal s := h
theorem Fin.out {s2 : AS} {id : Nat} (h : Fin E n Q k (.exit id) s) : Fin E n (z2o n s2 (KQ E n Q k)) .done (.exit id) s := h
theorem Fin.out_ret {s2 : AS} (h : Fin E n Q k .ret s) : Fin E n (z2o n s2 (KQ E n Q k)) .done .ret s := h
theorem Run.range (len : Nat) (S : Nat → AS) (h0 : Wk n s (S 0)) (round : ∀ i, i < len → Run E n (z2o n (S (i + 1)) (KQ E n Q k)) x .done (S i))
 (last : Run E n (Ex.then (fun _ => False) (KQ E n Q k)) x .done (S len)) : Run E n Q (.loop x) k s := by
 refine Run.wk h0 (Run.loop (fun m s => ∃ i, i ≤ len ∧ m = len - i ∧ s = S i) (m0 := len) ⟨0, Nat.zero_le _, rfl, rfl⟩ fun m s ⟨i, hi, hm, hs⟩ => ?_)
 subst hs
 by_cases hl : i < len
 ·refine AW.mono (round i hl) fun e s' h => ?_
  cases e with
  | normal => exact ⟨len - (i + 1), S (i + 1), by omega, h, i + 1, hl, rfl, rfl⟩
  | _ => exact h
 ·have : i = len := by omega
  subst this
  refine AW.mono last fun e s' h => ?_
  cases e with
  | normal => exact h.elim
  | _ => exact h
theorem Fin.last {id : Nat} (h : Fin E n Q k (.exit id) s) : Fin E n (Ex.then (fun _ => False) (KQ E n Q k)) .done (.exit id) s := h
end
end
section
theorem q0b {x : Int} (h : -9223372036854775808 ≤ x ∧ x ≤ 9223372036854775807) : IntKind.i64.wrap x = x := by
 simp only [IntKind.wrap, IntKind.bits, IntKind.signed]
 simp
 omega
theorem q0u {i : Nat} (h : i < 9223372036854775807) : IntKind.i64.wrap ((i : Int) + 1) = ((i + 1 : Nat) : Int) := by rw [q0b (by omega)]; omega
theorem qgd {i : Nat} (h : 1 ≤ i ∧ i ≤ 9223372036854775807) : IntKind.i64.wrap ((i : Int) - 1) = ((i - 1 : Nat) : Int) := by rw [q0b (by omega)]; omega
theorem q4l {i j : Nat} (h : i + j ≤ 9223372036854775807) : IntKind.i64.wrap ((i : Int) + j) = ((i + j : Nat) : Int) := by rw [q0b (by omega)]; omega
theorem z2w {n : Nat} (h : n ≤ 9223372036854775807) : IntKind.i64.wrap ((n : Int).tdiv 2) = ((n / 2 : Nat) : Int) := by
 have e : (n : Int).tdiv 2 = ((n / 2 : Nat) : Int) := by rw [Int.ofNat_tdiv]; rfl
 rw [e, q0b (by omega)]
theorem dT {p : Prop} [Decidable p] (h : p) : decide p = true := decide_eq_true h
theorem dF {p : Prop} [Decidable p] (h : ¬ p) : decide p = false := decide_eq_false h
theorem ltT {a b : Int} (h : a < b) : (a < b) = True := eq_true h
theorem ltF {a b : Int} (h : ¬ a < b) : (a < b) = False := eq_false h
theorem leT {a b : Int} (h : a ≤ b) : (a ≤ b) = True := eq_true h
theorem leF {a b : Int} (h : ¬ a ≤ b) : (a ≤ b) = False := eq_false h
theorem ltTN {a b : Nat} (h : a < b) : (a < b) = True := eq_true h
theorem ltFN {a b : Nat} (h : ¬ a < b) : (a < b) = False := eq_false h
theorem leTN {a b : Nat} (h : a ≤ b) : (a ≤ b) = True := eq_true h
theorem leFN {a b : Nat} (h : ¬ a ≤ b) : (a ≤ b) = False := eq_false h
class Enc (α : Type) where
 enc : α → AVal
 stb : ∀ x, (enc x).stb = true
def q1k {α : Type} [Enc α] (l : List α) : List AVal := l.map Enc.enc
section
variable {α : Type} [Enc α]
theorem q18 (l : List α) : (q1k l).length = l.length := by simp [q1k]
theorem q0e (l : List α) : q0i (q1k l) = true := q3g Enc.stb
theorem ze3 (x : α) (l : List α) : q1k (x :: l) = Enc.enc x :: q1k l := rfl
theorem encL_get {l : List α} {i : Nat} (h : i < l.length) : (q1k l)[i]? = some (Enc.enc l[i]) := by simp [q1k, h]
theorem ze1 (l : List α) (i : Nat) : (q1k l).take i = q1k (l.take i) := by simp [q1k]
theorem ze2 (l : List α) (i : Nat) : (q1k l).drop i = q1k (l.drop i) := by simp [q1k]
end
def LoopW {σ : Type} (n : Nat) (S : σ → AS) (ok : σ → Prop) (Q : Ex → AS → Prop) : Ex → AS → Prop := Ex.then (fun s' => ∃ y, ok y ∧ Wk n s' (S y)) Q
section
variable {E : Env} {n : Nat} {Q : Ex → AS → Prop} {k : Kont} {s : AS} {x : SC} {σ : Type} {S : σ → AS} {ok : σ → Prop}
theorem Run.while (S : σ → AS) (I : σ → Prop) (m : σ → Nat) (x0 : σ) (h0 : Wk n s (S x0)) (hI : I x0)
 (round : ∀ y, I y → Run E n (LoopW n S (fun z => I z ∧ m z < m y) (KQ E n Q k)) x .done (S y)) : Run E n Q (.loop x) k s := by
 refine Run.wk h0 (Run.loop (fun c s => ∃ y, I y ∧ m y = c ∧ s = S y) (m0 := m x0) ⟨x0, hI, rfl, rfl⟩ fun c s ⟨y, hy, hm, hs⟩ => ?_)
 subst hs
 refine AW.mono (round y hy) fun e s' h => ?_
 cases e with
 | normal =>
  obtain ⟨z, ⟨h1, h2⟩, h3⟩ := h
  exact ⟨m z, S z, by omega, h3, z, h1, rfl, rfl⟩
 | _ => exact h
theorem Fin.nextW (y : σ) {Q' : Ex → AS → Prop} (hy : ok y) (h : Wk n s (S y)) : Fin E n (LoopW n S ok Q') .done .normal s := ⟨y, hy, h⟩
theorem Fin.outW {id : Nat} (h : Fin E n Q k (.exit id) s) : Fin E n (LoopW n S ok (KQ E n Q k)) .done (.exit id) s := h
theorem Fin.outW_ret (h : Fin E n Q k .ret s) : Fin E n (LoopW n S ok (KQ E n Q k)) .done .ret s := h
theorem awp_op2 {d : Bool} {RK : Option (List Nat × (Nat → Bool))} {Q : Ex → AS → Prop} {r : List SOp} {T : q12} {M : Mem} {dst : Option Tmp} {op : Op} {v : AVal} {ups : List (Nat × ABlk)} {s' : AS} (hp : q7o op = true) (h : opS E.TE E.EQ ⟨T, M⟩ dst op = some (v, ups))
 (hc : dchk d RK dst op T ups = true) (hs : AS.put ⟨T, ap M ups⟩ dst v = s') (k : q06 E d RK Q r s') : q06 E d RK Q (⟨dst, op, none⟩ :: r) ⟨T, M⟩ := awp_op hp h hc (hs ▸ k)
end
end
section
theorem arr_no {K : Nat → Bool} {e sz : Nat} {xs : List AVal} (h : q0i xs = true) : (ABlk.arr e sz xs).no K = true := by
 simp only [ABlk.no, List.all_eq_true]
 intro x hx
 exact q27 (q2j h x hx)
theorem evs_nil' (T : q12) : evs T [] = [] := rfl
theorem zdh (T : q12) (x : Operand) (l : List Operand) : evs T (x :: l) = ev T x :: evs T l := rfl
theorem evp_nil' (T : q12) : evp T [] = [] := rfl
theorem zdi (T : q12) (x : Nat × Operand) (l : List (Nat × Operand)) : evp T (x :: l) = (x.1, ev T x.2) :: evp T l := rfl
theorem qkt (T : q12) : (none : Option Operand).map (ev T) = none := rfl
theorem qks (T : q12) (x : Operand) : (some x).map (ev T) = some (ev T x) := rfl
theorem q7g {α : Type} (f : Nat → α) (k : Nat) (v : α) (j : Nat) : upd f k v j = if j = k then v else f j := rfl
theorem qow (j : Nat) : tms [] j = .undef := rfl
theorem q49 (k : Nat) (v : AVal) (r : List (Nat × AVal)) (j : Nat) : tms ((k, v) :: r) j = if j = k then v else tms r j := rfl
theorem mms_nil' (j : Nat) : mms [] j = none := rfl
theorem q6b (k : Nat) (v : ABlk) (r : List (Nat × ABlk)) (j : Nat) : mms ((k, v) :: r) j = if j = k then some v else mms r j := rfl
theorem NoM' (j : Nat) : NoM j = none := rfl
theorem initT' (l : List AVal) (j : Nat) : q41 l j = (l[j]?).getD .undef := rfl
section
variable {T : q12} {M : Mem} {t : Tmp} {v : AVal} {j j' : Nat} {b b' : ABlk}
theorem put_v : AS.put ⟨T, ap M []⟩ (some t) v = ⟨upd T t v, M⟩ := rfl
theorem put_k : AS.put ⟨T, ap M [(j, b)]⟩ (some t) v = ⟨upd T t v, upd M j (some b)⟩ := rfl
theorem put_k2 : AS.put ⟨T, ap M [(j, b), (j', b')]⟩ (some t) v = ⟨upd T t v, upd (upd M j (some b)) j' (some b')⟩ := rfl
theorem put_n : AS.put ⟨T, ap M []⟩ none v = ⟨T, M⟩ := rfl
theorem put_s : AS.put ⟨T, ap M [(j, b)]⟩ none v = ⟨T, upd M j (some b)⟩ := rfl
theorem put_s2 : AS.put ⟨T, ap M [(j, b), (j', b')]⟩ none v = ⟨T, upd (upd M j (some b)) j' (some b')⟩ := rfl
end
class Live (l : List SOp) where
 L : List Nat
class Rd (l : List SOp) where
 K : Nat → Bool
def z3o (L : List Nat) (T : q12) : List (Nat × AVal) := L.map fun k => (k, T k)
theorem rstr_nil (T : q12) : z3o [] T = [] := rfl
theorem z3n (k : Nat) (L : List Nat) (T : q12) : z3o (k :: L) T = (k, T k) :: z3o L T := rfl
theorem qem (T : q12) : ∀ L : List Nat, allT T (z3o L T)
 | [] => trivial
 | k :: L => ⟨rfl, qem T L⟩
theorem qmn {α : Type} (f : Nat → α) (k : Nat) (v u : α) : upd (upd f k v) k u = upd f k u := by
 funext j
 simp only [upd]
 split <;> rfl
section
variable {E : Env} {n : Nat} {Q : Ex → AS → Prop} {k : Kont} {d : Bool} {T : q12} {T' : List (Nat × AVal)} {M M' : Mem}
theorem Run.opsL0 {l l2 : List SOp} (e : l = l2) (L : List Nat) (hT : z3o L T = T') (hM : M = M') (g : q06 E d none (KQ E n Q k) l2 ⟨tms T', M'⟩) : Run E n Q (.ops d l) k ⟨T, M⟩ := by
 subst hT; subst hM; subst e
 exact Run.wk (Wk.keep (z3o L T) (qem T L)) (Run.ops g)
theorem Run.opsWL0 (K : Nat → Bool) {ws : List Nat} {l l2 : List SOp} (e : l = l2) (L : List Nat) (hT : z3o L T = T') (hM : M = M') (g : q06 E true (some (ws, K)) (KQ E n Q k) l2 ⟨tms T', M'⟩) : Run E n Q (.opsW ws l) k ⟨T, M⟩ := by
 subst hT; subst hM; subst e
 exact Run.wk (Wk.keep (z3o L T) (qem T L)) (Run.opsW K g)
end
end
section
def Hyp (p A : Prop) : Prop := p → A
theorem Hyp.of {p A : Prop} (h : p → A) : Hyp p A := h
def q2h (x : AVal) (b : Bool) (yes no : Prop) : Prop :=
 match x with
 | .bool c => (c = b → yes) ∧ (c = !b → no)
 | .tup _ => no
 | _ => False
section
variable {E : Env} {d : Bool} {RK : Option (List Nat × (Nat → Bool))} {Q : Ex → AS → Prop} {r : List SOp} {T : q12} {M : Mem} {s' : AS} {dst : Option Tmp} {op : Op} {A B : Prop}
theorem awp_g {t u : Tmp} {b : Bool} {x : AVal} (hT : T t = x) (h : q2h x b (q06 E d RK Q (⟨some u, op, none⟩ :: r) ⟨T, M⟩) (q06 E d RK Q r ⟨upd T u (.tup []), M⟩)) :
 q06 E d RK Q (⟨some u, op, some (some t, b)⟩ :: r) ⟨T, M⟩ := by
 simp only [q06, z2y, hT]
 unfold q2h at h
 cases x <;> first | exact h.elim | exact h
theorem awp_g0 {t : Tmp} {b : Bool} {x : AVal} (hT : T t = x) (h : q2h x b (q06 E d RK Q (⟨none, op, none⟩ :: r) ⟨T, M⟩) (q06 E d RK Q r ⟨T, M⟩)) :
 q06 E d RK Q (⟨none, op, some (some t, b)⟩ :: r) ⟨T, M⟩ := by
 simp only [q06, z2y, hT]
 unfold q2h at h
 cases x <;> first | exact h.elim | exact h
theorem g_tup {l : List AVal} {b : Bool} (h : B) : q2h (.tup l) b A B := h
theorem g_tt (h : A) : q2h (.bool true) true A B := ⟨fun _ => h, fun h => by cases h⟩
theorem g_ff (h : A) : q2h (.bool false) false A B := ⟨fun _ => h, fun h => by cases h⟩
theorem g_tf (h : B) : q2h (.bool true) false A B := ⟨fun h => (by cases h), fun _ => h⟩
theorem g_ft (h : B) : q2h (.bool false) true A B := ⟨fun h => (by cases h), fun _ => h⟩
theorem g_splitT {c : Bool} (h1 : Hyp (c = true) A) (h2 : Hyp (c = false) B) : q2h (.bool c) true A B := ⟨h1, h2⟩
theorem g_splitF {c : Bool} (h1 : Hyp (c = true) B) (h2 : Hyp (c = false) A) : q2h (.bool c) false A B := ⟨h2, h1⟩
end
def qd9 (x : AVal) (A B : Prop) : Prop :=
 match x with
 | .bool c => (c = true → A) ∧ (c = false → B)
 | _ => False
section
variable {E : Env} {n : Nat} {Q : Ex → AS → Prop} {k : Kont} {x y : SC} {s : AS} {A B : Prop}
theorem Run.condG {o : Operand} {v : AVal} (hb : ev s.T o = v) (h : qd9 v (Run E n Q x k s) (Run E n Q y k s)) : Run E n Q (.cond o x y) k s := by
 unfold qd9 at h
 cases v <;> first | exact h.elim | skip
 exact Run.cond _ hb h.1 h.2
theorem c_t (h : A) : qd9 (.bool true) A B := ⟨fun _ => h, fun h => by cases h⟩
theorem c_f (h : B) : qd9 (.bool false) A B := ⟨fun h => (by cases h), fun _ => h⟩
theorem c_split {c : Bool} (h1 : Hyp (c = true) A) (h2 : Hyp (c = false) B) : qd9 (.bool c) A B := ⟨h1, h2⟩
end
theorem kill_app (K : Nat → Bool) (M : Mem) (j : Nat) : kill K M j = if K j = true then (M j).map (fun _ => .dead) else M j := rfl
end
section
def Bp := (aI (aI (aI (aI @opS.eq_1 @opA.eq_1) (aI @evs_nil' (aI @zdh @evp_nil'))) (aI (aI @zdi @qkt) (aI @qks (aI @q7g @qow)))) (aI (aI (aI @q49 @mms_nil') (aI @q6b (aI @NoM' @initT'))) (aI (aI @kill_app @ev.eq_1) (aI @ev.eq_2 (aI @ev.eq_3 @ev.eq_4)))))
def Bq := (aI (aI (aI (aI (aI (aI (aI @qfh.eq_1 @Option.map_some.{0, 0}) (aI @Option.map_none.{0, 0} @List.map_cons.{0, 0})) (aI (aI @List.map_nil.{0, 0} @List.getElem?_cons_zero.{0}) (aI @List.getElem?_cons_succ.{0} (aI @List.getElem?_nil.{0} @List.all_cons.{0})))) (aI (aI (aI @List.all_nil.{0} @List.length_cons.{0}) (aI @List.length_nil.{0} (aI @List.take_succ_cons.{0} @List.take_zero.{0}))) (aI (aI @List.drop_succ_cons.{0} @List.drop_zero.{0}) (aI @List.set_cons_zero.{0} (aI @List.set_cons_succ.{0} @List.cons_append.{0}))))) (aI (aI (aI (aI @List.nil_append.{0} @List.append_nil.{0}) (aI @List.toList_toArray.{0} (aI @qa6.eq_1 @q66.eq_1))) (aI (aI @q45.eq_1 @qe5.eq_1) (aI @qbs.eq_1 (aI @q4s.eq_1 @qg1.eq_1)))) (aI (aI (aI @lenA.eq_1 @q5u.eq_1) (aI @q1l.eq_1 (aI @TyI.zeros.eq_1 @TyI.zeroElem.eq_1))) (aI (aI @TyI.okElem.eq_1 @q0m.eq_1) (aI @if_true.{0} (aI @if_false.{0} @Bool.false_eq_true)))))) (aI (aI (aI (aI (aI @false_implies @true_implies) (aI @implies_true.{0} (aI @true_and @and_true))) (aI (aI @and_self @ne_eq.{0}) (aI @not_true (aI @not_false_iff @Bool.and_true)))) (aI (aI (aI @Bool.true_and @Bool.and_false) (aI @Bool.false_and (aI @Bool.or_true @Bool.true_or))) (aI (aI @Bool.or_false @Bool.false_or) (aI @Bool.not_true (aI @Bool.not_false @beq_self_eq_true.{0}))))) (aI (aI (aI (aI @Nat.mul_one @Nat.le_refl) (aI @Nat.zero_add (aI @Nat.add_zero @Option.isSome_some.{0}))) (aI (aI @decide_true @decide_false) (aI @qbt (aI @qf5 @List.replicate_succ.{0})))) (aI (aI (aI @List.replicate_zero.{0} @List.flatMap_cons.{0, 0}) (aI @List.flatMap_nil.{0, 0} (aI @flat.eq_1 @Array.size_empty.{0}))) (aI (aI @dchk.eq_1 @List.contains_cons.{0}) (aI @List.contains_nil.{0} (aI @List.isEmpty_nil.{0} @List.isEmpty_cons.{0}))))))) (aI (aI (aI (aI (aI (aI @Int.toNat_natCast @Int.natCast_nonneg) (aI @z2w (aI @q0u @qgd))) (aI (aI @q4l @q0b) (aI @dT (aI @dF @ltT)))) (aI (aI (aI @ltF @leT) (aI @leF (aI @ltTN @ltFN))) (aI (aI @leTN @leFN) (aI @q18 (aI @encL_get @Enc.enc.eq_1))))) (aI (aI (aI (aI @Nat.sub_zero @List.length_take.{0}) (aI @List.length_drop.{0} (aI @List.take_length.{0} @Option.getD.eq_1.{0}))) (aI (aI @Option.getD.eq_2.{0} @boxA.eq_1) (aI @boxA.eq_2 (aI @q8o.eq_1 @q8o.eq_2)))) (aI (aI (aI @setP.eq_1 @setP.eq_2) (aI @qmg.eq_1 (aI @qmg.eq_2 @qmg.eq_3))) (aI (aI @q7q.eq_1 @q7q.eq_2) (aI @Go.Op.operands.eq_1 (aI @Go.Op.operands.eq_2 @Go.Op.operands.eq_3)))))) (aI (aI (aI (aI (aI @Go.Op.operands.eq_4 @Go.Op.operands.eq_5) (aI @Go.Op.operands.eq_6 (aI @Go.Op.operands.eq_7 @Go.Op.operands.eq_8))) (aI (aI @Go.Op.operands.eq_9 @Go.Op.operands.eq_10) (aI @Go.Op.operands.eq_11 (aI @Go.Op.operands.eq_12 @Go.Op.operands.eq_13)))) (aI (aI (aI @Go.Op.operands.eq_14 @Go.Op.operands.eq_15) (aI @Go.Op.operands.eq_16 (aI @Go.Op.operands.eq_17 @Go.Op.operands.eq_18))) (aI (aI @Go.Op.operands.eq_19 @Go.Op.operands.eq_20) (aI @Go.Op.operands.eq_21 (aI @Go.Op.operands.eq_22 @Go.Op.operands.eq_23))))) (aI (aI (aI (aI @Go.Op.operands.eq_24 @Go.Op.operands.eq_25) (aI @Go.Op.operands.eq_26 (aI @Go.Op.operands.eq_27 @Go.Op.operands.eq_28))) (aI (aI @Go.Op.operands.eq_29 @Go.Op.operands.eq_30) (aI @Go.Op.operands.eq_31 (aI @Go.Op.operands.eq_32 @Go.Op.operands.eq_33)))) (aI (aI (aI @Go.Op.operands.eq_34 @Go.Op.operands.eq_35) (aI @Go.Op.operands.eq_36 (aI @Go.Op.operands.eq_37 @Go.Op.operands.eq_38))) (aI (aI @Go.Op.operands.eq_39 @Go.Op.operands.eq_40) (aI @Go.Op.operands.eq_41 (aI @Go.Op.operands.eq_42 @Go.Op.operands.eq_43))))))))
def Br := (aI (aI (aI @rstr_nil @z3n) (aI @q7g (aI @qow @q49))) (aI (aI @NoM' @initT') (aI @List.getElem?_cons_zero.{0} (aI @List.getElem?_cons_succ.{0} @List.getElem?_nil.{0}))))
def Bh := (aI (aI (aI @decide_eq_true_eq @decide_eq_false_iff_not) (aI @Bool.not_eq_true' @Bool.not_eq_false')) (aI (aI @Bool.and_eq_true @Bool.or_eq_true) (aI @Bool.and_eq_false_iff (aI @Bool.or_eq_false_iff @Classical.not_not))))
section
variable {E : Env} {d : Bool} {RK : Option (List Nat × (Nat → Bool))} {Q : Ex → AS → Prop} {r : List SOp} {T : q12} {M : Mem} {dst : Option Tmp} {op : Op} {n : Nat} {K : Kont} {x y : SC} {s : AS}
theorem dv {v : AVal} {ups : List (Nat × ABlk)} {s' : AS} (hp : q7o op = true) (h : opS E.TE E.EQ ⟨T, M⟩ dst op = some (v, ups)) (hc : dchk d RK dst op T ups = true) (hs : AS.put ⟨T, ap M ups⟩ dst v = s') (k : q06 E d RK Q r s') : q06 E d RK Q (⟨dst, op, none⟩ :: r) ⟨T, M⟩ := awp_op2 hp h hc hs k
theorem dg {t u : Tmp} {b : Bool} {x : AVal} (h : T t = x) (k : q2h x b (q06 E d RK Q (⟨some u, op, none⟩ :: r) ⟨T, M⟩) (q06 E d RK Q r ⟨upd T u (.tup []), M⟩)) : q06 E d RK Q (⟨some u, op, some (some t, b)⟩ :: r) ⟨T, M⟩ := awp_g h k
theorem dg0 {t : Tmp} {b : Bool} {x : AVal} (h : T t = x) (k : q2h x b (q06 E d RK Q (⟨none, op, none⟩ :: r) ⟨T, M⟩) (q06 E d RK Q r ⟨T, M⟩)) : q06 E d RK Q (⟨none, op, some (some t, b)⟩ :: r) ⟨T, M⟩ := awp_g0 h k
theorem dc {o : Operand} {v : AVal} (h : ev s.T o = v) (k : qd9 v (Run E n Q x K s) (Run E n Q y K s)) : Run E n Q (.cond o x y) K s := Run.condG h k
end
end
def teL : List (Nat × TyI) := [
 (0, ⟨.other, 1, 0, .tuple ([]).toArray⟩),
 (3, ⟨.int .i64, 1, 8, .int .i64 0⟩),
 (4, ⟨.bool, 1, 1, .bool false⟩),
 (5, ⟨.int .u8, 1, 1, .int .u8 0⟩),
 (9, ⟨.str, 1, 16, .string ByteArray.empty⟩),
 (16, ⟨.ptr 224, 1, 8, .pointer none⟩),
 (20, ⟨.iface, 1, 16, .nilIface⟩),
 (22, ⟨.slice 3, 1, 24, .slice none 0 0⟩),
 (23, ⟨.slice 82, 1, 24, .slice none 0 0⟩),
 (25, ⟨.struct [(22, 0), (23, 1)], 2, 48, .agg ([.slice none 0 0, .slice none 0 0]).toArray⟩),
 (26, ⟨.slice 45, 1, 24, .slice none 0 0⟩),
 (27, ⟨.slice 84, 1, 24, .slice none 0 0⟩),
 (28, ⟨.slice 5, 1, 24, .slice none 0 0⟩),
 (30, ⟨.struct [(25, 0), (25, 2), (26, 4), (26, 5), (27, 6), (27, 7), (28, 8), (28, 9), (28, 10)], 11, 264, .agg ([.slice none 0 0, .slice none 0 0, .slice none 0 0, .slice none 0 0, .slice none 0 0, .slice none 0 0, .slice none 0 0, .slice none 0 0, .slice none 0 0, .slice none 0 0, .slice none 0 0]).toArray⟩),
 (35, ⟨.int .i64, 1, 8, .int .i64 0⟩),
 (43, ⟨.struct [(3, 0), (3, 1)], 2, 16, .agg ([.int .i64 0, .int .i64 0]).toArray⟩),
 (45, ⟨.struct [(43, 0), (9, 2), (3, 3)], 4, 40, .agg ([.int .i64 0, .int .i64 0, .string ByteArray.empty, .int .i64 0]).toArray⟩),
 (82, ⟨.struct [(3, 0), (3, 1), (3, 2)], 3, 24, .agg ([.int .i64 0, .int .i64 0, .int .i64 0]).toArray⟩),
 (84, ⟨.struct [(9, 0), (25, 1)], 3, 64, .agg ([.string ByteArray.empty, .slice none 0 0, .slice none 0 0]).toArray⟩),
 (86, ⟨.arr 16 22, 16, 384, .agg ([.slice none 0 0, .slice none 0 0, .slice none 0 0, .slice none 0 0, .slice none 0 0, .slice none 0 0, .slice none 0 0, .slice none 0 0, .slice none 0 0, .slice none 0 0, .slice none 0 0, .slice none 0 0, .slice none 0 0, .slice none 0 0, .slice none 0 0, .slice none 0 0]).toArray⟩),
 (88, ⟨.struct [(86, 0)], 16, 384, .agg ([.slice none 0 0, .slice none 0 0, .slice none 0 0, .slice none 0 0, .slice none 0 0, .slice none 0 0, .slice none 0 0, .slice none 0 0, .slice none 0 0, .slice none 0 0, .slice none 0 0, .slice none 0 0, .slice none 0 0, .slice none 0 0, .slice none 0 0, .slice none 0 0]).toArray⟩),
 (91, ⟨.struct [(28, 0), (4, 1)], 2, 32, .agg ([.slice none 0 0, .bool false]).toArray⟩),
 (92, ⟨.ptr 91, 1, 8, .pointer none⟩),
 (95, ⟨.struct [(91, 0)], 2, 32, .agg ([.slice none 0 0, .bool false]).toArray⟩),
 (109, ⟨.func, 1, 8, .nilFunc⟩),
 (112, ⟨.func, 1, 8, .nilFunc⟩),
 (117, ⟨.func, 1, 8, .nilFunc⟩),
 (123, ⟨.struct [(28, 0), (3, 1), (4, 2)], 3, 40, .agg ([.slice none 0 0, .int .i64 0, .bool false]).toArray⟩),
 (128, ⟨.slice 25, 1, 24, .slice none 0 0⟩),
 (131, ⟨.ptr 95, 1, 8, .pointer none⟩),
 (140, ⟨.ptr 163, 1, 8, .pointer none⟩),
 (141, ⟨.func, 1, 8, .nilFunc⟩),
 (147, ⟨.slice 43, 1, 24, .slice none 0 0⟩),
 (156, ⟨.ptr 123, 1, 8, .pointer none⟩),
 (158, ⟨.ptr 175, 1, 8, .pointer none⟩),
 (163, ⟨.struct [(28, 0), (3, 1), (4, 2), (35, 3)], 4, 48, .agg ([.slice none 0 0, .int .i64 0, .bool false, .int .i64 0]).toArray⟩),
 (165, ⟨.struct [(140, 0)], 1, 8, .agg ([.pointer none]).toArray⟩),
 (173, ⟨.slice 177, 1, 24, .slice none 0 0⟩),
 (175, ⟨.arr 16 173, 16, 384, .agg ([.slice none 0 0, .slice none 0 0, .slice none 0 0, .slice none 0 0, .slice none 0 0, .slice none 0 0, .slice none 0 0, .slice none 0 0, .slice none 0 0, .slice none 0 0, .slice none 0 0, .slice none 0 0, .slice none 0 0, .slice none 0 0, .slice none 0 0, .slice none 0 0]).toArray⟩),
 (177, ⟨.struct [(3, 0), (3, 1)], 2, 16, .agg ([.int .i64 0, .int .i64 0]).toArray⟩),
 (185, ⟨.func, 1, 8, .nilFunc⟩),
 (190, ⟨.slice 173, 1, 24, .slice none 0 0⟩),
 (194, ⟨.func, 1, 8, .nilFunc⟩),
 (198, ⟨.int .u64, 1, 8, .int .u64 0⟩),
 (208, ⟨.int .u32, 1, 4, .int .u32 0⟩),
 (210, ⟨.int .u64, 1, 8, .int .u64 0⟩),
 (222, ⟨.arr 0 16, 0, 0, .agg ([]).toArray⟩),
 (224, ⟨.struct [(222, 0)], 0, 0, .agg ([]).toArray⟩)]
def TE0 (t : TypeId) : Option TyI := tyOf teL t
theorem qb5 : q2r Tryz.prog (tyOf teL) := tyOk_of (by kernel_rfl) (by kernel_rfl)
theorem TE_0 : TE0 0 = some ⟨.other, 1, 0, .tuple ([]).toArray⟩ := rfl
theorem TE_3 : TE0 3 = some ⟨.int .i64, 1, 8, .int .i64 0⟩ := rfl
theorem TE_4 : TE0 4 = some ⟨.bool, 1, 1, .bool false⟩ := rfl
theorem TE_5 : TE0 5 = some ⟨.int .u8, 1, 1, .int .u8 0⟩ := rfl
theorem TE_9 : TE0 9 = some ⟨.str, 1, 16, .string ByteArray.empty⟩ := rfl
theorem TE_16 : TE0 16 = some ⟨.ptr 224, 1, 8, .pointer none⟩ := rfl
theorem TE_20 : TE0 20 = some ⟨.iface, 1, 16, .nilIface⟩ := rfl
theorem TE_22 : TE0 22 = some ⟨.slice 3, 1, 24, .slice none 0 0⟩ := rfl
theorem TE_23 : TE0 23 = some ⟨.slice 82, 1, 24, .slice none 0 0⟩ := rfl
theorem zem : TE0 25 = some ⟨.struct [(22, 0), (23, 1)], 2, 48, .agg ([.slice none 0 0, .slice none 0 0]).toArray⟩ := rfl
theorem TE_26 : TE0 26 = some ⟨.slice 45, 1, 24, .slice none 0 0⟩ := rfl
theorem TE_27 : TE0 27 = some ⟨.slice 84, 1, 24, .slice none 0 0⟩ := rfl
theorem TE_28 : TE0 28 = some ⟨.slice 5, 1, 24, .slice none 0 0⟩ := rfl
theorem TE_30 : TE0 30 = some ⟨.struct [(25, 0), (25, 2), (26, 4), (26, 5), (27, 6), (27, 7), (28, 8), (28, 9), (28, 10)], 11, 264, .agg ([.slice none 0 0, .slice none 0 0, .slice none 0 0, .slice none 0 0, .slice none 0 0, .slice none 0 0, .slice none 0 0, .slice none 0 0, .slice none 0 0, .slice none 0 0, .slice none 0 0]).toArray⟩ := rfl
theorem TE_35 : TE0 35 = some ⟨.int .i64, 1, 8, .int .i64 0⟩ := rfl
theorem TE_43 : TE0 43 = some ⟨.struct [(3, 0), (3, 1)], 2, 16, .agg ([.int .i64 0, .int .i64 0]).toArray⟩ := rfl
theorem TE_45 : TE0 45 = some ⟨.struct [(43, 0), (9, 2), (3, 3)], 4, 40, .agg ([.int .i64 0, .int .i64 0, .string ByteArray.empty, .int .i64 0]).toArray⟩ := rfl
theorem TE_82 : TE0 82 = some ⟨.struct [(3, 0), (3, 1), (3, 2)], 3, 24, .agg ([.int .i64 0, .int .i64 0, .int .i64 0]).toArray⟩ := rfl
theorem TE_84 : TE0 84 = some ⟨.struct [(9, 0), (25, 1)], 3, 64, .agg ([.string ByteArray.empty, .slice none 0 0, .slice none 0 0]).toArray⟩ := rfl
theorem TE_86 : TE0 86 = some ⟨.arr 16 22, 16, 384, .agg ([.slice none 0 0, .slice none 0 0, .slice none 0 0, .slice none 0 0, .slice none 0 0, .slice none 0 0, .slice none 0 0, .slice none 0 0, .slice none 0 0, .slice none 0 0, .slice none 0 0, .slice none 0 0, .slice none 0 0, .slice none 0 0, .slice none 0 0, .slice none 0 0]).toArray⟩ := rfl
theorem TE_88 : TE0 88 = some ⟨.struct [(86, 0)], 16, 384, .agg ([.slice none 0 0, .slice none 0 0, .slice none 0 0, .slice none 0 0, .slice none 0 0, .slice none 0 0, .slice none 0 0, .slice none 0 0, .slice none 0 0, .slice none 0 0, .slice none 0 0, .slice none 0 0, .slice none 0 0, .slice none 0 0, .slice none 0 0, .slice none 0 0]).toArray⟩ := rfl
theorem TE_91 : TE0 91 = some ⟨.struct [(28, 0), (4, 1)], 2, 32, .agg ([.slice none 0 0, .bool false]).toArray⟩ := rfl
theorem TE_92 : TE0 92 = some ⟨.ptr 91, 1, 8, .pointer none⟩ := rfl
theorem TE_95 : TE0 95 = some ⟨.struct [(91, 0)], 2, 32, .agg ([.slice none 0 0, .bool false]).toArray⟩ := rfl
theorem TE_109 : TE0 109 = some ⟨.func, 1, 8, .nilFunc⟩ := rfl
theorem TE_112 : TE0 112 = some ⟨.func, 1, 8, .nilFunc⟩ := rfl
theorem TE_117 : TE0 117 = some ⟨.func, 1, 8, .nilFunc⟩ := rfl
theorem TE_123 : TE0 123 = some ⟨.struct [(28, 0), (3, 1), (4, 2)], 3, 40, .agg ([.slice none 0 0, .int .i64 0, .bool false]).toArray⟩ := rfl
theorem TE_128 : TE0 128 = some ⟨.slice 25, 1, 24, .slice none 0 0⟩ := rfl
theorem TE_131 : TE0 131 = some ⟨.ptr 95, 1, 8, .pointer none⟩ := rfl
theorem TE_140 : TE0 140 = some ⟨.ptr 163, 1, 8, .pointer none⟩ := rfl
theorem TE_141 : TE0 141 = some ⟨.func, 1, 8, .nilFunc⟩ := rfl
theorem TE_147 : TE0 147 = some ⟨.slice 43, 1, 24, .slice none 0 0⟩ := rfl
theorem TE_156 : TE0 156 = some ⟨.ptr 123, 1, 8, .pointer none⟩ := rfl
theorem TE_158 : TE0 158 = some ⟨.ptr 175, 1, 8, .pointer none⟩ := rfl
theorem TE_163 : TE0 163 = some ⟨.struct [(28, 0), (3, 1), (4, 2), (35, 3)], 4, 48, .agg ([.slice none 0 0, .int .i64 0, .bool false, .int .i64 0]).toArray⟩ := rfl
theorem z18 : TE0 165 = some ⟨.struct [(140, 0)], 1, 8, .agg ([.pointer none]).toArray⟩ := rfl
theorem TE_173 : TE0 173 = some ⟨.slice 177, 1, 24, .slice none 0 0⟩ := rfl
theorem TE_175 : TE0 175 = some ⟨.arr 16 173, 16, 384, .agg ([.slice none 0 0, .slice none 0 0, .slice none 0 0, .slice none 0 0, .slice none 0 0, .slice none 0 0, .slice none 0 0, .slice none 0 0, .slice none 0 0, .slice none 0 0, .slice none 0 0, .slice none 0 0, .slice none 0 0, .slice none 0 0, .slice none 0 0, .slice none 0 0]).toArray⟩ := rfl
theorem TE_177 : TE0 177 = some ⟨.struct [(3, 0), (3, 1)], 2, 16, .agg ([.int .i64 0, .int .i64 0]).toArray⟩ := rfl
theorem TE_185 : TE0 185 = some ⟨.func, 1, 8, .nilFunc⟩ := rfl
theorem TE_190 : TE0 190 = some ⟨.slice 173, 1, 24, .slice none 0 0⟩ := rfl
theorem TE_194 : TE0 194 = some ⟨.func, 1, 8, .nilFunc⟩ := rfl
theorem TE_198 : TE0 198 = some ⟨.int .u64, 1, 8, .int .u64 0⟩ := rfl
theorem TE_208 : TE0 208 = some ⟨.int .u32, 1, 4, .int .u32 0⟩ := rfl
theorem TE_210 : TE0 210 = some ⟨.int .u64, 1, 8, .int .u64 0⟩ := rfl
theorem TE_222 : TE0 222 = some ⟨.arr 0 16, 0, 0, .agg ([]).toArray⟩ := rfl
theorem TE_224 : TE0 224 = some ⟨.struct [(222, 0)], 0, 0, .agg ([]).toArray⟩ := rfl
def Bt := (aI (aI (aI (aI (aI TE_0 (aI TE_3 TE_4)) (aI TE_5 (aI TE_9 TE_16))) (aI (aI TE_20 (aI TE_22 TE_23)) (aI zem (aI TE_26 TE_27)))) (aI (aI (aI TE_28 (aI TE_30 TE_35)) (aI TE_43 (aI TE_45 TE_82))) (aI (aI TE_84 (aI TE_86 TE_88)) (aI TE_91 (aI TE_92 TE_95))))) (aI (aI (aI (aI TE_109 (aI TE_112 TE_117)) (aI TE_123 (aI TE_128 TE_131))) (aI (aI TE_140 (aI TE_141 TE_147)) (aI TE_156 (aI TE_158 TE_163)))) (aI (aI (aI z18 (aI TE_173 TE_175)) (aI TE_177 (aI TE_185 TE_190))) (aI (aI TE_194 (aI TE_198 TE_208)) (aI TE_210 (aI TE_222 TE_224))))))

def eqL : List Nat := [3, 4, 9, 43, 35, 82, 200, 45, 177, 5, 154, 210, 21, 198]
def EQ0 (t : TypeId) : Bool := eqL.contains t
theorem hm0 : Tryz.prog.follows .mixedOrders = true := by kernel_rfl
theorem hE0 : ∀ t, EQ0 t = true → EqOk Tryz.prog t := eqOk_of (by kernel_rfl)
def En (P : Program) (h : P = Tryz.prog) : Env := ⟨P, TE0, EQ0, h ▸ hm0, h ▸ qb5, h ▸ hE0⟩
theorem En_P (P : Program) (h : P = Tryz.prog) : (En P h).P = P := rfl
theorem qcs (P : Program) (h : P = Tryz.prog) : (En P h).TE = TE0 := rfl
theorem z2p (P : Program) (h : P = Tryz.prog) : (En P h).EQ = EQ0 := rfl

section
theorem bqs : ((true == true) = true) ∧ ((false == false) = true) ∧ ((true == false) = false) ∧ ((false == true) = false) := ⟨rfl, rfl, rfl, rfl⟩
class Nx (B : Prop) (A : outParam Prop) : Prop where
 it : A → B
class Ny (C : Prop) (A B : outParam Prop) : Prop where
 it : A → B → C
section
variable {E : Env} {n : Nat} {Q Q' : Ex → AS → Prop} {k : Kont} {s s2 : AS} {x y : SC} {d : Bool} {RK : Option (List Nat × (Nat → Bool))} {A B I : Prop} {σ : Type} {S : σ → AS} {ok : σ → Prop} {id : Nat} {l : List AVal} {b c : Bool}
instance : Nx (q06 E d RK (KQ E n Q k) [] s) (Fin E n Q k .normal s) := ⟨awp_nilK⟩
instance : Nx (Run E n Q (.seq x y) k s) (Run E n Q x (.seq y k) s) := ⟨Run.seq⟩
instance : Nx (Fin E n Q (.seq y k) .normal s) (Run E n Q y k s) := ⟨Fin.seq⟩
instance : Nx (Run E n Q .skip k s) (Fin E n Q k .normal s) := ⟨Run.skip⟩
instance : Nx (Run E n Q .ret k s) (Fin E n Q k .ret s) := ⟨Run.ret⟩
instance : Nx (Run E n Q (.exit id) k s) (Fin E n Q k (.exit id) s) := ⟨Run.exit⟩
instance : Nx (Run E n Q (.block id x) k s) (Run E n Q x (.block id k) s) := ⟨Run.block⟩
instance : Nx (Fin E n Q (.seq y k) .ret s) (Fin E n Q k .ret s) := ⟨Fin.seq_ret⟩
instance : Nx (Fin E n Q (.seq y k) (.exit id) s) (Fin E n Q k (.exit id) s) := ⟨Fin.seq_exit⟩
instance : Nx (Fin E n Q (.block id k) .normal s) (Fin E n Q k .normal s) := ⟨Fin.block⟩
instance : Nx (Fin E n Q (.block id k) .ret s) (Fin E n Q k .ret s) := ⟨Fin.block_ret⟩
instance : Nx (Fin E n Q (.block id k) (.exit id) s) (Fin E n Q k .normal s) := ⟨Fin.block_exit⟩
instance : Nx (Fin E n (z2o n s2 (KQ E n Q k)) .done (.exit id) s) (Fin E n Q k (.exit id) s) := ⟨Fin.out⟩
instance : Nx (Fin E n (z2o n s2 (KQ E n Q k)) .done .ret s) (Fin E n Q k .ret s) := ⟨Fin.out_ret⟩
instance : Nx (Fin E n (Ex.then (fun _ => False) (KQ E n Q k)) .done (.exit id) s) (Fin E n Q k (.exit id) s) := ⟨Fin.last⟩
instance : Nx (Fin E n (LoopW n S ok (KQ E n Q k)) .done (.exit id) s) (Fin E n Q k (.exit id) s) := ⟨Fin.outW⟩
instance : Nx (Fin E n (LoopW n S ok (KQ E n Q k)) .done .ret s) (Fin E n Q k .ret s) := ⟨Fin.outW_ret⟩
instance : Nx (q2h (.tup l) b A B) B := ⟨g_tup⟩
instance : Nx (q2h (.bool true) true A B) A := ⟨g_tt⟩
instance : Nx (q2h (.bool false) false A B) A := ⟨g_ff⟩
instance : Nx (q2h (.bool true) false A B) B := ⟨g_tf⟩
instance : Nx (q2h (.bool false) true A B) B := ⟨g_ft⟩
instance : Nx (qd9 (.bool true) A B) A := ⟨c_t⟩
instance : Nx (qd9 (.bool false) A B) B := ⟨c_f⟩
instance : Ny (q2h (.bool c) true A B) (Hyp (c = true) A) (Hyp (c = false) B) := ⟨g_splitT⟩
instance : Ny (q2h (.bool c) false A B) (Hyp (c = true) B) (Hyp (c = false) A) := ⟨g_splitF⟩
instance : Ny (qd9 (.bool c) A B) (Hyp (c = true) A) (Hyp (c = false) B) := ⟨c_split⟩
theorem Nx.of [h : Nx B A] (a : A) : B := h.it a
theorem Ny.of {C : Prop} [h : Ny C A B] (a : A) (b : B) : C := h.it a b
end
def GV (E : Env) (d : Bool) (RK : Option (List Nat × (Nat → Bool))) (Q : Ex → AS → Prop) (dst : Option Tmp) (op : Op) (r : List SOp) (T : q12) (M : Mem) : Prop := q06 E d RK Q (⟨dst, op, none⟩ :: r) ⟨T, M⟩
def GG (E : Env) (d : Bool) (RK : Option (List Nat × (Nat → Bool))) (Q : Ex → AS → Prop) (u t : Tmp) (b : Bool) (op : Op) (r : List SOp) (T : q12) (M : Mem) : Prop := q06 E d RK Q (⟨some u, op, some (some t, b)⟩ :: r) ⟨T, M⟩
def GG0 (E : Env) (d : Bool) (RK : Option (List Nat × (Nat → Bool))) (Q : Ex → AS → Prop) (t : Tmp) (b : Bool) (op : Op) (r : List SOp) (T : q12) (M : Mem) : Prop := q06 E d RK Q (⟨none, op, some (some t, b)⟩ :: r) ⟨T, M⟩
def GC (E : Env) (n : Nat) (Q : Ex → AS → Prop) (o : Operand) (x y : SC) (K : Kont) (s : AS) : Prop := Run E n Q (.cond o x y) K s
def GO (E : Env) (n : Nat) (Q : Ex → AS → Prop) (d : Bool) (l : List SOp) (L : List Nat) (K : Kont) (T : q12) (M : Mem) : Prop := Run E n Q (.ops d l) K ⟨T, M⟩
def GW (E : Env) (n : Nat) (Q : Ex → AS → Prop) (ws : List Nat) (l : List SOp) (L : List Nat) (K : Kont) (T : q12) (M : Mem) : Prop := Run E n Q (.opsW ws l) K ⟨T, M⟩
def GW2 (E : Env) (n : Nat) (Q : Ex → AS → Prop) (ws : List Nat) (l : List SOp) (L : List Nat) (F : Nat → Bool) (K : Kont) (T : q12) (M : Mem) : Prop := Run E n Q (.opsW ws l) K ⟨T, M⟩
def GX (E : Env) (n : Nat) (Q : Ex → AS → Prop) (id id' : Nat) (k : Kont) (s : AS) : Prop := Fin E n Q (.block id k) (.exit id') s
section
variable {E : Env} {d : Bool} {RK : Option (List Nat × (Nat → Bool))} {Q : Ex → AS → Prop} {r : List SOp} {T : q12} {M : Mem} {dst : Option Tmp} {op : Op} {n : Nat} {K : Kont} {x y : SC} {s : AS} {l : List SOp} {id id' : Nat} {u t : Tmp} {b : Bool} {o : Operand}
theorem toV (h : GV E d RK Q dst op r T M) : q06 E d RK Q (⟨dst, op, none⟩ :: r) ⟨T, M⟩ := h
theorem toG (h : GG E d RK Q u t b op r T M) : q06 E d RK Q (⟨some u, op, some (some t, b)⟩ :: r) ⟨T, M⟩ := h
theorem toG0 (h : GG0 E d RK Q t b op r T M) : q06 E d RK Q (⟨none, op, some (some t, b)⟩ :: r) ⟨T, M⟩ := h
theorem toC (h : GC E n Q o x y K s) : Run E n Q (.cond o x y) K s := h
theorem toO [i : Live l] (h : GO E n Q d l (Live.L l) K T M) : Run E n Q (.ops d l) K ⟨T, M⟩ := h
theorem toW {ws : List Nat} [i : Live l] (h : GW E n Q ws l (Live.L l) K T M) : Run E n Q (.opsW ws l) K ⟨T, M⟩ := h
theorem toW2 {ws : List Nat} [i : Live l] [j : Rd l] (h : GW2 E n Q ws l (Live.L l) (Rd.K l) K T M) : Run E n Q (.opsW ws l) K ⟨T, M⟩ := h
theorem toX (h : GX E n Q id id' K s) : Fin E n Q (.block id K) (.exit id') s := h
end
section
variable {E : Env} {d : Bool} {RK : Option (List Nat × (Nat → Bool))} {Q : Ex → AS → Prop} {r : List SOp} {T : q12} {M : Mem} {dst : Option Tmp} {op : Op} {n : Nat} {K : Kont} {x y : SC} {s : AS}
theorem stV {v : AVal} {ups : List (Nat × ABlk)} {s' : AS} (hp : q7o op = true := by with_unfolding_all rfl)
 (h : opS E.TE E.EQ ⟨T, M⟩ dst op = some (v, ups) := by (simp (disch := omega) only [↓Bp, Bq, qcs, z2p, En_P, q7e, q8p, qd2, q1o, q8k, z2v, q8y, q84, strA, qo4, z1p, nilP, nilF, qnn, unA, q2o, mmA, q5x, q2g, qme, q22, q4p, q4u, q1h, q7c, TD.atomic, qgc, TD.isAgg, AVal.known, AVal.cells, AVal.one, AVal.plain, AVal.withCells, q6c, AVal.at, AVal.atR, q5s, q40, qaa, cst, Go.Value.cells, reduceCtorEq, ↓reduceIte, Nat.reduceAdd, Nat.reduceMul, Nat.reduceLeDiff, Nat.reduceEqDiff, Nat.reduceBEq, Int.reduceLE, Int.reduceLT, Int.reduceToNat, Nat.reduceLT, Nat.reduceSub, Int.reduceNeg, Int.reduceEq, Bt, bqs, eqA, z2u, EQ0, eqL, kill, hF]; first | done | with_unfolding_all exact rfl))
 (hc : dchk d RK dst op T ups = true := by first | with_reducible exact ze7 | with_unfolding_all rfl)
 (hs : AS.put ⟨T, ap M ups⟩ dst v = s' := by with_reducible first | exact put_v | exact put_k | exact put_s | exact put_n | exact put_k2 | exact put_s2)
 (k : q06 E d RK Q r s') : GV E d RK Q dst op r T M := dv hp h hc hs k
theorem stG {t u : Tmp} {b : Bool} {x : AVal} (h : T t = x := by (simp (disch := omega) only [↓Bp, Bq, qcs, z2p, En_P, q7e, q8p, qd2, q1o, q8k, z2v, q8y, q84, strA, qo4, z1p, nilP, nilF, qnn, unA, q2o, mmA, q5x, q2g, qme, q22, q4p, q4u, q1h, q7c, TD.atomic, qgc, TD.isAgg, AVal.known, AVal.cells, AVal.one, AVal.plain, AVal.withCells, q6c, AVal.at, AVal.atR, q5s, q40, qaa, cst, Go.Value.cells, reduceCtorEq, ↓reduceIte, Nat.reduceAdd, Nat.reduceMul, Nat.reduceLeDiff, Nat.reduceEqDiff, Nat.reduceBEq, Int.reduceLE, Int.reduceLT, Int.reduceToNat, Nat.reduceLT, Nat.reduceSub, Int.reduceNeg, Int.reduceEq, Bt, bqs, eqA, z2u, EQ0, eqL, kill, hF]; first | done | with_unfolding_all exact rfl))
 (k : q2h x b (q06 E d RK Q (⟨some u, op, none⟩ :: r) ⟨T, M⟩) (q06 E d RK Q r ⟨upd T u (.tup []), M⟩)) : GG E d RK Q u t b op r T M := dg h k
theorem stG0 {t : Tmp} {b : Bool} {x : AVal} (h : T t = x := by (simp (disch := omega) only [↓Bp, Bq, qcs, z2p, En_P, q7e, q8p, qd2, q1o, q8k, z2v, q8y, q84, strA, qo4, z1p, nilP, nilF, qnn, unA, q2o, mmA, q5x, q2g, qme, q22, q4p, q4u, q1h, q7c, TD.atomic, qgc, TD.isAgg, AVal.known, AVal.cells, AVal.one, AVal.plain, AVal.withCells, q6c, AVal.at, AVal.atR, q5s, q40, qaa, cst, Go.Value.cells, reduceCtorEq, ↓reduceIte, Nat.reduceAdd, Nat.reduceMul, Nat.reduceLeDiff, Nat.reduceEqDiff, Nat.reduceBEq, Int.reduceLE, Int.reduceLT, Int.reduceToNat, Nat.reduceLT, Nat.reduceSub, Int.reduceNeg, Int.reduceEq, Bt, bqs, eqA, z2u, EQ0, eqL, kill, hF]; first | done | with_unfolding_all exact rfl))
 (k : q2h x b (q06 E d RK Q (⟨none, op, none⟩ :: r) ⟨T, M⟩) (q06 E d RK Q r ⟨T, M⟩)) : GG0 E d RK Q t b op r T M := dg0 h k
theorem stC {o : Operand} {v : AVal} (h : ev s.T o = v := by (simp (disch := omega) only [↓Bp, Bq, qcs, z2p, En_P, q7e, q8p, qd2, q1o, q8k, z2v, q8y, q84, strA, qo4, z1p, nilP, nilF, qnn, unA, q2o, mmA, q5x, q2g, qme, q22, q4p, q4u, q1h, q7c, TD.atomic, qgc, TD.isAgg, AVal.known, AVal.cells, AVal.one, AVal.plain, AVal.withCells, q6c, AVal.at, AVal.atR, q5s, q40, qaa, cst, Go.Value.cells, reduceCtorEq, ↓reduceIte, Nat.reduceAdd, Nat.reduceMul, Nat.reduceLeDiff, Nat.reduceEqDiff, Nat.reduceBEq, Int.reduceLE, Int.reduceLT, Int.reduceToNat, Nat.reduceLT, Nat.reduceSub, Int.reduceNeg, Int.reduceEq, Bt, bqs, eqA, z2u, EQ0, eqL, kill, hF]; first | done | with_unfolding_all exact rfl))
 (k : qd9 v (Run E n Q x K s) (Run E n Q y K s)) : GC E n Q o x y K s := dc h k
theorem stO {T' : List (Nat × AVal)} {M' : Mem} {l : List SOp} {L : List Nat} {o : SOp} (hl : l = o :: r := by with_unfolding_all rfl)
 (hT : z3o L T = T' := by (simp only [Live.L, ↓Br, ↓reduceIte, Nat.reduceEqDiff, Option.getD]; first | done | with_unfolding_all exact rfl))
 (hM : M = M' := by (first | (simp only [qmn]; with_unfolding_all exact rfl) | with_unfolding_all exact rfl))
 (k : q06 E d none (KQ E n Q K) (o :: r) ⟨tms T', M'⟩) : GO E n Q d l L K T M := Run.opsL0 hl L hT hM k
theorem stW (F : Nat → Bool) {ws : List Nat} {T' : List (Nat × AVal)} {M' : Mem} {l : List SOp} {L : List Nat} {o : SOp} (hl : l = o :: r := by with_unfolding_all rfl)
 (hT : z3o L T = T' := by (simp only [Live.L, ↓Br, ↓reduceIte, Nat.reduceEqDiff, Option.getD]; first | done | with_unfolding_all exact rfl))
 (hM : M = M' := by (first | (simp only [qmn]; with_unfolding_all exact rfl) | with_unfolding_all exact rfl))
 (k : q06 E true (some (ws, F)) (KQ E n Q K) (o :: r) ⟨tms T', M'⟩) : GW E n Q ws l L K T M := Run.opsWL0 F hl L hT hM k
theorem stW2 {F : Nat → Bool} {F2 : Nat → Bool} {ws : List Nat} {T' : List (Nat × AVal)} {M' : Mem} {l : List SOp} {L : List Nat} {o : SOp} (hl : l = o :: r := by with_unfolding_all rfl)
 (hT : z3o L T = T' := by (simp only [Live.L, ↓Br, ↓reduceIte, Nat.reduceEqDiff, Option.getD]; first | done | with_unfolding_all exact rfl))
 (hM : M = M' := by (first | (simp only [qmn]; with_unfolding_all exact rfl) | with_unfolding_all exact rfl))
 (hF2 : F = F2 := by (simp only [Rd.K]; with_unfolding_all exact rfl)) (k : q06 E true (some (ws, F2)) (KQ E n Q K) (o :: r) ⟨tms T', M'⟩) : GW2 E n Q ws l L F K T M := Run.opsWL0 F2 hl L hT hM k
theorem stX {Q : Ex → AS → Prop} {z : Kont} {id id' : Nat} (hne : (id' == id) = false := by with_unfolding_all rfl) (k : Fin E n Q z (.exit id') s) : GX E n Q id id' z s := Fin.block_other hne k
theorem q05 {t : Tmp} {x : Operand} {args : Array Operand} {ts : Array TypeId} {f : FuncId} {caps : List AVal} (l : List AVal) {v : AVal} (hf : ev T x = .fn f caps := by with_unfolding_all rfl)
 (hl : (evs T args.toList ++ caps).map (fz (fun _ => false) M) = l := by first | with_unfolding_all rfl | (simp [evs, ev, cst, fz, fzc, upd, tms, hL]; done)) (hs : q0i l = true := by first | (simp only [q0i, AVal.stb, q01, q09, q17, q02, q0c, q0k, q0e, Bool.and_true, Bool.true_and, Bool.and_self]; done) | (simp only [q0i, AVal.stb, q01, q09, q17, q02, q0c, q0k, q0e, Bool.and_true, Bool.true_and, Bool.and_self, hS]; done)) (he : Ev E.P f l (.ret v))
 (k : q06 E d RK Q r ⟨upd T t v, M⟩) : q06 E d RK Q (⟨some t, .call ⟨.value x, args, ts⟩, none⟩ :: r) ⟨T, M⟩ := q4r hf hl hs he k
theorem z3c {t : Tmp} {x : Operand} {args : Array Operand} {ts : Array TypeId} (K : Nat → Bool) {f : FuncId} {caps : List AVal} (l : List AVal) {v : AVal} (hf : ev T x = .fn f caps := by with_unfolding_all rfl)
 (hl : (evs T args.toList ++ caps).map (fz K M) = l := by first | with_unfolding_all rfl | simp [evs, ev, fz, fzc, upd, tms, mms, kill]) (hs : q0i l = true := by first | (simp only [q0i, AVal.stb, q01, q09, q17, q02, q0c, q0k, q0e, Bool.and_true, Bool.true_and, Bool.and_self]; done) | (simp only [q0i, AVal.stb, q01, q09, q17, q02, q0c, q0k, q0e, Bool.and_true, Bool.true_and, Bool.and_self, hS]; done)) (he : Ev E.P f l (.ret v))
 (hv : v.flt = false := by with_unfolding_all rfl) (k : q06 E false none Q r ⟨upd T t v, kill K M⟩) : q06 E false none Q (⟨some t, .call ⟨.value x, args, ts⟩, none⟩ :: r) ⟨T, M⟩ := awp_give K hf hl hs he hv k
theorem stNew {t : Tmp} {x : Operand} {args : Array Operand} {ts : Array TypeId} {f : FuncId} {caps : List AVal} (l : List AVal) {cs : List AVal} (hf : ev T x = .fn f caps := by with_unfolding_all rfl)
 (hl : (evs T args.toList ++ caps).map (fz (fun _ => false) M) = l := by first | with_unfolding_all rfl | (simp [evs, ev, cst, fz, fzc, upd, tms, hL]; done)) (hs : q0i l = true := by first | (simp only [q0i, AVal.stb, q01, q09, q17, q02, q0c, q0k, q0e, Bool.and_true, Bool.true_and, Bool.and_self]; done) | (simp only [q0i, AVal.stb, q01, q09, q17, q02, q0c, q0k, q0e, Bool.and_true, Bool.true_and, Bool.and_self, hS]; done)) (he : EvNew E.P f l cs)
 (hM : M t = none := by with_unfolding_all rfl) (k : q06 E d none Q r ⟨upd T t (.ptr t 0), upd M t (some (.cells cs))⟩) : q06 E d none Q (⟨some t, .call ⟨.value x, args, ts⟩, none⟩ :: r) ⟨T, M⟩ := awp_new hf hl hs he hM k
theorem z3d {t : Tmp} {x : Operand} {args : Array Operand} {ts : Array TypeId} {f : FuncId} {caps : List AVal} (l : List AVal) {sz : Nat} {xs : List AVal} (hf : ev T x = .fn f caps := by with_unfolding_all rfl)
 (hl : (evs T args.toList ++ caps).map (fz (fun _ => false) M) = l := by first | with_unfolding_all rfl | (simp [evs, ev, cst, fz, fzc, upd, tms, hL]; done)) (hs : q0i l = true := by first | (simp only [q0i, AVal.stb, q01, q09, q17, q02, q0c, q0k, q0e, Bool.and_true, Bool.true_and, Bool.and_self]; done) | (simp only [q0i, AVal.stb, q01, q09, q17, q02, q0c, q0k, q0e, Bool.and_true, Bool.true_and, Bool.and_self, hS]; done)) (he : EvFresh E.P f l sz xs)
 (hM : M t = none := by with_unfolding_all rfl) (k : q06 E d none Q r ⟨upd T t (.os t 0), upd M t (some (.arr 0 sz xs))⟩) : q06 E d none Q (⟨some t, .call ⟨.value x, args, ts⟩, none⟩ :: r) ⟨T, M⟩ := zek hf hl hs he hM k
theorem q0t {l : List (Nat × AVal)} {m : List (Nat × ABlk)}
 (h : allT T l := by repeat (first | exact trivial | refine ⟨by with_unfolding_all rfl, ?_⟩ | (refine ⟨by simp [↓q7g, ↓q49, ↓q6b, ↓NoM', hW], ?_⟩)))
 (hm : allM M m := by repeat (first | exact trivial | refine ⟨by with_unfolding_all rfl, ?_⟩ | (refine ⟨by simp [↓q7g, ↓q49, ↓q6b, ↓NoM', hW], ?_⟩)))
 (hn : z2n (z2t m) l := by repeat (first | exact trivial | (refine ⟨?_, ?_⟩; focus (first | with_unfolding_all rfl | (apply q27; simp only [q0i, AVal.stb, q01, q09, q17, q02, q0c, q0k, q0e, Bool.and_true, Bool.true_and, Bool.and_self, hW]; done)))))
 (hb : blkNo (z2t m) m := by repeat (first | exact trivial | (refine ⟨?_, ?_⟩; focus (first | with_unfolding_all rfl | (apply arr_no; simp only [q0i, AVal.stb, q01, q09, q17, q02, q0c, q0k, q0e, Bool.and_true, Bool.true_and, Bool.and_self, hW]; done) | exact q4w _ _ | exact z0p _ _ | exact z0s _ _ | (apply z0x; simp only [q0i, AVal.stb, q01, q09, q17, q02, q0c, q0k, q0e, Bool.and_true, Bool.true_and, Bool.and_self, hW]; done) | (apply z0w; simp only [qof, z0y, List.all_cons, List.all_nil, q0i, AVal.stb, q01, q09, q17, q02, q0c, q0k, q0e, Bool.and_true, Bool.true_and, Bool.and_self, hW]; done) | (simp [ABlk.no, AVal.noC, AVal.no, AVal.stb, q0i, q01, q09, q17, q02, q0c, q0k, q0e, hW]; done))))) :
 Wk n ⟨T, M⟩ ⟨tms l, mms m⟩ := Wk.toL l m h hm hn hb
theorem stRet {t : Tmp} (x : AVal) (h : fz q74 M (T t) = x := by first | with_unfolding_all rfl | simp [fz, fzc, q74, upd, tms, mms]) (hs : x.stb = true := by first | with_unfolding_all rfl | simp only [q0i, AVal.stb, q01, q09, q17, q02, q0c, q0k, q0e, Bool.and_true, Bool.true_and, Bool.and_self]) :
 Fin E n (FnQ E.TE [.tmp t] (.ret x)) .done .ret ⟨T, M⟩ := Fin.tmp' h hs
theorem go1 {A G : Prop} (h : A → G := by (intro hK; first | ((with_reducible refine Nx.of ?_); exact hK) | ((with_reducible apply toV); refine stV (k:=?_); exact hK) | ((with_reducible apply toG); refine stG (k:=?_); exact hK) | ((with_reducible apply toG0); refine stG0 (k:=?_); exact hK) | ((with_reducible apply toC); refine stC (k:=?_); exact hK) | ((with_reducible apply toO); refine stO (k:=?_); exact hK) | ((with_reducible apply toX); refine stX (k:=?_); exact hK))) (k : A) : G := h k
theorem go2 {A G : Prop} (h : A → G := by (intro hK; first | ((with_reducible refine Nx.of ?_); exact hK) | ((with_reducible apply toV); refine stV (k:=?_); exact hK) | ((with_reducible apply toG); refine stG (k:=?_); exact hK) | ((with_reducible apply toG0); refine stG0 (k:=?_); exact hK) | ((with_reducible apply toC); refine stC (k:=?_); exact hK) | ((with_reducible apply toO); refine stO (k:=?_); exact hK) | ((with_reducible apply toW2); refine stW2 (k:=?_); exact hK) | ((with_reducible apply toX); refine stX (k:=?_); exact hK))) (k : A) : G := h k
theorem go0 {A G : Prop} (h : A → G := by (intro hK; first | ((with_reducible refine Nx.of ?_); exact hK) | ((with_reducible apply toV); refine stV (k:=?_); exact hK) | ((with_reducible apply toG); refine stG (k:=?_); (with_reducible refine Nx.of ?_); exact hK) | ((with_reducible apply toG0); refine stG0 (k:=?_); (with_reducible refine Nx.of ?_); exact hK) | ((with_reducible apply toC); refine stC (k:=?_); (with_reducible refine Nx.of ?_); exact hK) | ((with_reducible apply toO); refine stO (k:=?_); exact hK) | ((with_reducible apply toX); refine stX (k:=?_); exact hK))) (k : A) : G := h k
end
end

section
def q3a (K : Nat → Bool) (TE : TyE) (s : AS) : ResultVar → Option AVal
 | .tmp t => some (fz K s.M (s.T t))
 | .cell a t =>
  match TE t, s.T a with
  | some i, .ptr k off =>
   match s.M k with
   | some (.cells cs) =>
    if K k = false then none else
    if i.td.isAgg = true then (if off + i.size ≤ cs.length then some (.agg (((cs.drop off).take i.size).map (fzc K s.M))) else none)
    else (match cs[off]? with | some x => some (fzc K s.M x) | none => none)
   | _ => none
  | _, _ => none
def q1n (K : Nat → Bool) (TE : TyE) (s : AS) : List ResultVar → Option (List AVal)
 | [] => some []
 | r :: rs => match q3a K TE s r, q1n K TE s rs with | some x, some xs => some (x :: xs) | _, _ => none
section
variable {P : Program} {TE : TyE}
theorem z1m {K : Nat → Bool} (hT : q2r P TE) {n : Nat} {B : Nat → Prop} {G : Gh} {s : AS} {a : Act} {w : World} (h : Rel n B G s a w) {r : ResultVar} {x : AVal} (hr : q3a K TE s r = some x) :
 ∃ v, (match r with | .tmp t => pure (a.tmps.getD t undef) | .cell c t => do loadVar t (← asAddr (a.tmps.getD c undef)) : Sem Value).run P w = .ok v w ∧ VR (Dm s.M) (G.without K) B w x v := by
 cases r with
 | tmp t =>
  simp only [q3a, Option.some.injEq] at hr
  subst hr
  exact ⟨a.tmps.getD t undef, rfl, qnz h.mem (h.temps t)⟩
 | cell c t =>
  simp only [q3a] at hr
  have hx := h.temps c
  cases hi : TE t with
  | none => simp [hi] at hr
  | some i =>
   cases hc : s.T c <;> simp only [hi, hc, reduceCtorEq] at hr
   rename_i k off
   rw [hc] at hx
   dsimp only
   generalize a.tmps.getD c undef = av at hx ⊢
   cases hx with
   | ptr _ _ hD =>
    cases hm : s.M k with
    | none => simp [hm] at hr
    | some blk =>
     cases blk <;> simp only [hm, reduceCtorEq] at hr
     rename_i cs
     obtain ⟨cc, el, b1, b2, b3, b4, b5⟩ := h.mem k _ hm
     split at hr
     ·cases hr
     rename_i hKk0
     have hKk : K k = true := by simpa using hKk0
     cases ha : i.td.isAgg
     ·simp only [ha, Bool.false_eq_true, if_false] at hr
      cases hy : cs[off]? with
      | none => simp [hy] at hr
      | some y =>
       simp only [hy, Option.some.injEq] at hr
       subst hr
       obtain ⟨u, hu, hru⟩ := b5 off y hy
       have := q1y hT hi (G.β k) off (fun _ => u) w (fun j hj => by
        have : j = 0 := by simpa [ha] using hj
        subst this
        rw [q29 b3]
        simpa using hu)
       simp only [ha, Bool.false_eq_true, if_false] at this
       exact ⟨u, by simp [asAddr, this], q8l h.mem hKk hru⟩
     ·simp only [ha, if_true] at hr
      split at hr
      case isFalse => simp at hr
      rename_i hle
      simp only [Option.some.injEq] at hr
      subst hr
      have hrun := q1y hT hi (G.β k) off (fun j => cc.getD (off + j) undef) w (fun j hj => by
       simp only [ha, if_true] at hj
       have hlt : off + j < cs.length := by omega
       obtain ⟨u, hu, hr⟩ := b5 (off + j) cs[off + j] (List.getElem?_eq_getElem hlt)
       rw [q29 b3, hu]
       simp [hu])
      simp only [ha, if_true] at hrun
      refine ⟨.agg ((List.range i.size).map fun j => cc.getD (off + j) undef).toArray, by simp [asAddr, hrun], .agg _ _ (by simp; omega) fun m x v hx hv => ?_⟩
      have hmn : m < i.size := by
       rcases Nat.lt_or_ge m i.size with h' | h'
       ·exact h'
       ·rw [List.getElem?_eq_none (by simp; omega)] at hx; cases hx
      simp only [List.getElem?_map, List.getElem?_take, hmn, if_true, List.getElem?_drop] at hx
      cases hq : cs[off + m]? with
      | none => simp [hq] at hx
      | some y =>
       simp only [hq, Option.map_some, Option.some.injEq] at hx
       subst hx
       obtain ⟨u, hu, hru⟩ := b5 _ _ hq
       have : v = u := by
        have e : ((List.range i.size).map fun j => cc.getD (off + j) undef)[m]? = some u := by simp [hmn, hu]
        rw [List.getElem?_toArray, e] at hv
        exact (Option.some.inj hv).symm
       rw [this]
       exact q8l h.mem hKk hru
theorem qdh {K : Nat → Bool} (hT : q2r P TE) {n : Nat} {B : Nat → Prop} {G : Gh} {s : AS} {a : Act} {w : World} (h : Rel n B G s a w) : ∀ {rs : List ResultVar} {xs : List AVal}, q1n K TE s rs = some xs →
 ∃ vs : List Value, (rs.mapM (fun r => match r with | .tmp t => pure (a.tmps.getD t undef) | .cell c t => do loadVar t (← asAddr (a.tmps.getD c undef)) : ResultVar → Sem Value)).run P w = .ok vs w ∧ vs.length = xs.length ∧
  ∀ (i : Nat) (x : AVal) (v : Value), xs[i]? = some x → vs[i]? = some v → VR (Dm s.M) (G.without K) B w x v
 | [], xs, hr => by
  simp only [q1n, Option.some.injEq] at hr
  subst hr
  exact ⟨[], by simp, rfl, fun i x v hx => by simp at hx⟩
 | r :: rs, xs, hr => by
  simp only [q1n] at hr
  cases h1 : q3a K TE s r with
  | none => simp [h1] at hr
  | some x =>
   cases h2 : q1n K TE s rs with
   | none => simp [h1, h2] at hr
   | some ys =>
    simp only [h1, h2, Option.some.injEq] at hr
    subst hr
    obtain ⟨v, e1, e2⟩ := z1m hT h h1
    obtain ⟨vs, f1, f2, f3⟩ := qdh hT h h2
    refine ⟨v :: vs, ?_, by simp [f2], fun i y u hy hu => ?_⟩
    ·rw [List.mapM_cons]
     simp only [Sem.run_bind, e1, Result.andThen, f1, Sem.run_pure]
    ·cases i with
     | zero =>
      simp only [List.getElem?_cons_zero, Option.some.injEq] at hy hu
      subst hy; subst hu
      exact e2
     | succ i => exact f3 i y u (by simpa using hy) (by simpa using hu)
theorem qbl {K : Nat → Bool} (hT : q2r P TE) {n : Nat} {B : Nat → Prop} {G : Gh} {s : AS} {a : Act} {w : World} (h : Rel n B G s a w) {fn : Func} {xs ys : List AVal} (hr : q1n K TE s fn.results.toList = some xs) (hsub : qeg xs ys) :
 ∃ v, (results fn a.tmps).run P w = .ok v w ∧ VR (Dm s.M) (G.without K) B w (q75 ys) v := by
 obtain ⟨vs, e1, e2, e3⟩ := qdh hT h hr
 have e3' : ∀ (i : Nat) (y : AVal) (v : Value), ys[i]? = some y → vs[i]? = some v → VR (Dm s.M) (G.without K) B w y v := fun i y v hy hv => by
  obtain ⟨x, hx, hs⟩ := qag hsub hy
  exact z38 hs (e3 i x v hx hv)
 rw [qaf hsub] at e2
 replace e3 := e3'
 have hm : (fn.results.mapM (fun r => match r with | .tmp t => pure (a.tmps.getD t undef) | .cell c t => do loadVar t (← asAddr (a.tmps.getD c undef)) : ResultVar → Sem Value)).run P w = .ok vs.toArray w := by
  rw [Array.mapM_eq_mapM_toList]
  simp only [Sem.run_map, e1, Result.andThen]
 refine ⟨if h : vs.toArray.size = 1 then vs.toArray[0] else .tuple vs.toArray, ?_, ?_⟩
 ·unfold results
  simp only [Sem.run_bind]
  refine Eq.trans (congrArg (fun r => Result.andThen r _) hm) ?_
  simp [Result.andThen]
 ·clear e3' hr hsub e1 hm
  match ys, vs, e2 with
  | [], [], _ => exact .tup [] _ rfl fun n x v hx => by simp at hx
  | [x], [v], _ => exact e3 0 x v rfl rfl
  | x :: y :: l, v :: u :: l', e2 =>
   simp only [List.size_toArray, List.length_cons, Nat.reduceEqDiff, Nat.add_eq_zero_iff, Nat.succ_ne_self, and_false, dite_false, q75]
   exact .tup _ _ (by simp; simpa using e2) fun n x v hx hv => e3 n x v hx (by simpa using hv)
end
mutual
theorem AVal.ren_id : ∀ x : AVal, x.ren (fun k => k) = x
 | .ptr _ _ | .eptr _ _ _ _ _ | .os _ _ | .vw _ _ _ _ _ | .mp _ | .undef | .int _ _ | .bool _ | .str _ | .nil | .sl _ _ | .nilptr | .sptr _ | .nilfn | .niliface | .own _ _ | .hole | .ref _ => rfl
 | .agg cs => by rw [AVal.ren, qen cs]
 | .tup cs => by rw [AVal.ren, qen cs]
 | .fn f cs => by rw [AVal.ren, qen cs]
 | .iface t v => by rw [AVal.ren, AVal.ren_id v]
theorem qen : ∀ l : List AVal, q79 (fun k => k) l = l
 | [] => rfl
 | x :: l => by rw [q79, AVal.ren_id x, qen l]
end
def q53 : Nat := 1000000
def q38 (b : Nat) : Value := .pointer (some ⟨b, 0, none⟩)
def lnt (m : qe8) (β : Nat → Nat) : List (Nat × ABlk) := m.flatMap fun p => [(p.1, .cells p.2), (q53 + p.1, .note (.ptr p.1 0) (q38 (β p.1)))]
theorem qc4 (p : Nat × List AVal) (m : qe8) (k : Nat) : q3v (p :: m) k = if k = p.1 then some (.cells p.2) else q3v m k := by
 unfold q3v
 rw [List.find?_cons]
 by_cases h : p.1 = k
 ·subst h; simp
 ·rw [if_neg (fun e => h e.symm)]
  have : (p.1 == k) = false := by simpa using h
  rw [this]
theorem qns {β : Nat → Nat} {k : Nat} (hk : k < q53) : ∀ m : qe8, mms (lnt m β) k = q3v m k
 | [] => rfl
 | p :: m => by
  rw [qc4]
  show upd (upd (mms (lnt m β)) (q53 + p.1) _) p.1 _ k = _
  by_cases h : k = p.1
  ·subst h; rw [q00, if_pos rfl]
  ·rw [q0h _ _ h, if_neg h, q0h _ _ (by omega), qns hk m]
theorem qc3 {β : Nat → Nat} {j : Nat} {blk : ABlk} : ∀ {m : qe8}, mms (lnt m β) j = some blk → q3v m j = some blk ∨ ∃ p ∈ m, blk = .note (.ptr p.1 0) (q38 (β p.1))
 | [], h => by simp [lnt, mms, NoM] at h
 | p :: m, h => by
  rw [qc4]
  have h : upd (upd (mms (lnt m β)) (q53 + p.1) (some (.note (.ptr p.1 0) (q38 (β p.1))))) p.1 (some (.cells p.2)) j = some blk := h
  by_cases h1 : j = p.1
  ·subst h1; rw [q00] at h; rw [if_pos rfl]; exact .inl h
  ·rw [q0h _ _ h1] at h
   rw [if_neg h1]
   by_cases h2 : j = q53 + p.1
   ·subst h2; rw [q00] at h; cases h; exact .inr ⟨p, by simp, rfl⟩
   ·rw [q0h _ _ h2] at h
    exact (qc3 h).imp id fun ⟨q, hq, he⟩ => ⟨q, by simp [hq], he⟩
def FinM (m m' : qe8) (β : Nat → Nat) (s : AS) : Prop := (∀ p ∈ m', s.M p.1 = some (.cells p.2)) ∧ ∀ p ∈ m, ∃ j, s.M j = some (.note (.ptr p.1 0) (q38 (β p.1)))
def FnM (TE : TyE) (rs : List ResultVar) (m m' : qe8) (β : Nat → Nat) (out : Out) : Ex → AS → Prop
 | .normal, s => ∃ xs, q1n (fun j => !lin m j) TE s rs = some xs ∧ q0i xs = true ∧ (∃ ys, qeg xs ys ∧ out = .ret (q75 ys)) ∧ FinM m m' β s
 | .ret, s => ∃ xs, q1n (fun j => !lin m j) TE s rs = some xs ∧ q0i xs = true ∧ (∃ ys, qeg xs ys ∧ out = .ret (q75 ys)) ∧ FinM m m' β s
 | .pan x, s => x.kin (lin m) = true ∧ out = .pan x ∧ FinM m m' β s
 | .exit _, _ => False
theorem EvM.of_body {E : Env} {f : FuncId} {n : Nat} {rs : List ResultVar} {sc : SC} (hf : FnIs E.P f n rs sc) {args : List AVal} {m m' : qe8} {out : Out} (hl : args.length ≤ n) (hd : ∀ k, lin m' k = lin m k)
 (hb : ∀ p ∈ m, p.1 < q53) (hst' : ∀ p ∈ m', ∀ x ∈ p.2, q0j x = true) (h : ∀ β, AW E n sc (FnM E.TE rs m m' β out) ⟨q41 args, mms (lnt m β)⟩) : EvM E.P f args m out m' := by
 obtain ⟨fn, c, h1, h2, h3, rfl, rfl, h6⟩ := hf
 refine ⟨⟨fn, h1, h2, by simp [h3]⟩, hd, fun B w vs G hG hsz hv hmem hB hol => ?_⟩
 refine calls_of_wp h1 h3 ?_
 have hlt : ∀ k, lin m k = true → k < q53 := fun k hk => by
  obtain ⟨cs, hc⟩ := q3o hk
  obtain ⟨cs', _, hm⟩ := q23 hc
  exact hb _ hm
 have hD : ∀ k e, Dm (q3v m) k e → Dm (mms (lnt m G.β)) k e := fun k e hk => by
  have hk' := qnt.1 hk
  unfold Dm
  rw [qns (hlt k hk')]
  exact hk
 have same : ∀ b, b < w.heap.size → ¬ B b → G.ow b = none → w.heap[b]? = w.heap[b]? ∧ ¬ B b ∧ G.ow b = none := fun b _ hn ho => ⟨rfl, hn, ho⟩
 have hR : Rel fn.ntmps B G ⟨q41 args, mms (lnt m G.β)⟩ { tmps := vs ++ Array.replicate (fn.ntmps - vs.size) undef, defers := [] } w := by
  refine ⟨by simp; omega, rfl, fun t => ?_, fun k blk hk => ?_, hB, hol⟩
  ·simp only [q41]
   cases ht : args[t]? with
   | none => exact .undef _
   | some x =>
    have hlt : t < vs.size := by
     rw [hsz]
     rcases Nat.lt_or_ge t args.length with h' | h'
     ·exact h'
     ·rw [List.getElem?_eq_none h'] at ht; cases ht
    have : (vs ++ Array.replicate (fn.ntmps - vs.size) undef).getD t undef = vs[t] := by
     rw [Array.getD_eq_getD_getElem?, Array.getElem?_append_left hlt]
     simp [hlt]
    simp only [Option.getD_some, this]
    exact VR.mono (G := G) (G' := G) (B := B) (B' := B) (w := w) (w' := w) hD (fun _ _ _ => ⟨rfl, rfl⟩) same (hv t x _ ht (by simp [hlt]))
  ·rcases qc3 hk with hk | ⟨p, hp, rfl⟩
   ·exact BlkRel.mono (G := G) (G' := G) (B := B) (B' := B) (w := w) (w' := w) hD (fun _ _ _ => ⟨rfl, rfl⟩) same (fun b key _ _ hn ho => ⟨rfl, hn, ho⟩) (q90 hk) (hmem k blk hk)
   ·refine .ptr p.1 0 (hD _ _ (qnt.2 ?_))
    unfold lin q3v
    rw [Option.isSome_map, List.find?_isSome]
    exact ⟨p, hp, by simp⟩
 refine h G.β c h6 B G _ w hR _ fun e s a' w' G' hA hR' hq => ?_
 let G2 : Gh := { G' with ow := fun b => match G'.ow b with | some (.box k) => if lin m k = true then some (.box k) else none | some (.cell k i) => if lin m k = true then some (.cell k i) else none | _ => none }
 have g2 : ∀ b, G'.ow b = none → G2.ow b = none := fun b hb => by simp only [G2, hb]
 have g3 : ∀ b, (G'.without fun j => !lin m j).ow b = none → G2.ow b = none := fun b hb => by
  simp only [Gh.without] at hb
  simp only [G2]
  cases hq : G'.ow b with
  | none => rfl
  | some key =>
   simp only [hq] at hb
   cases key with
   | arr j => rfl
   | box j => cases hl : lin m j <;> simp [OKey.of, hl] at hb ⊢
   | cell j i => cases hl : lin m j <;> simp [OKey.of, hl] at hb ⊢
 have hA2 : Adv G w G2 w' := ⟨hA.os, hA.tape, hA.output, hA.size, fun b hb ho => ⟨(hA.keep b hb ho).1, g2 b (hA.keep b hb ho).2⟩⟩
 have hkeys : ∀ b key, G2.ow b = some key → lin m key.of = true ∧ ∀ j, key ≠ .arr j := fun b key hk => by
  simp only [G2] at hk
  split at hk
  ·split at hk
   ·rename_i hl; cases hk; exact ⟨hl, fun _ h => (by cases h)⟩
   ·cases hk
  ·split at hk
   ·rename_i hl; cases hk; exact ⟨hl, fun _ h => (by cases h)⟩
   ·cases hk
  ·cases hk
 have hol2 : ∀ b, G2.ow b ≠ none → b < w'.heap.size := fun b hb => hR'.ol b fun hn => hb (g2 b hn)
 have fin : FinM m m' G.β s → (∀ k, lin m k = true → G2.β k = G.β k) ∧ (∀ k blk, q3v m' k = some blk → BlkRel (Dm (q3v m')) G2 B w' k blk) := fun ⟨f1, f2⟩ => by
  refine ⟨fun k hk => ?_, fun k blk hk => ?_⟩
  ·obtain ⟨cs, hc⟩ := q3o hk
   obtain ⟨cs', _, hm⟩ := q23 hc
   obtain ⟨j, hj⟩ := f2 _ hm
   have hn : VR (Dm s.M) G' B w' (.ptr k 0) (q38 (G.β k)) := hR'.mem j _ hj
   show G'.β k = G.β k
   unfold q38 at hn
   generalize hg : Value.pointer (some ⟨G.β k, 0, none⟩) = u at hn
   cases hn with
   | ptr _ _ hD =>
    simp only [Value.pointer.injEq, Option.some.injEq, Addr.mk.injEq] at hg
    exact hg.1.symm
  ·obtain ⟨cs, rfl, hm⟩ := q23 hk
   have hlk : lin m k = true := by rw [← hd]; unfold lin; rw [hk]; rfl
   exact q5r (G := G') (G' := G2) (B := B) (B' := B) (hst' _ hm) rfl (fun b hn ho => ⟨hn, by simp only [G2, ho, hlk, if_true]⟩) (fun b i hn ho => ⟨hn, by simp only [G2, ho, hlk, if_true]⟩) (fun b _ hn ho => ⟨hn, g2 b ho⟩) (hR'.mem k _ (f1 _ hm))
 have hret : ∀ xs ys, q1n (fun j => !lin m j) E.TE s fn.results.toList = some xs → q0i xs = true → qeg xs ys → ∃ v, (results fn a'.tmps).run E.P w' = .ok v w' ∧ VR (Dm (q3v m')) G2 B w' (q75 ys) v := by
  intro xs ys hx hs hsub
  obtain ⟨v, e1, e2⟩ := qbl E.hT hR' hx hsub
  refine ⟨v, e1, e2.stable (fun b _ hn ho => ⟨rfl, hn, g3 b ho⟩) ?_⟩
  have hs := qef hsub hs
  clear e2 hsub hx
  match ys, hs with
  | [], _ => rfl
  | [x], hs => simp only [q0i, Bool.and_true] at hs; exact hs
  | x :: y :: l, hs => exact hs
 cases e with
 | normal =>
  obtain ⟨xs, hx, hs, ⟨ys, hsub, rfl⟩, hf⟩ := hq
  obtain ⟨v, e1, e2⟩ := hret xs ys hx hs hsub
  exact ⟨hR'.defers, v, e1, G2, v, hkeys, hol2, hA2, (fin hf).1, (fin hf).2, rfl, e2⟩
 | ret =>
  obtain ⟨xs, hx, hs, ⟨ys, hsub, rfl⟩, hf⟩ := hq
  obtain ⟨v, e1, e2⟩ := hret xs ys hx hs hsub
  exact ⟨hR'.defers, v, e1, G2, v, hkeys, hol2, hA2, (fin hf).1, (fin hf).2, rfl, e2⟩
 | exit id => exact hq.elim
 | pan x =>
  intro v' hV
  obtain ⟨hk, rfl, hf⟩ := hq
  refine ⟨hR'.defers, G2, v', hkeys, hol2, hA2, (fin hf).1, (fin hf).2, rfl, ?_⟩
  have := VR.ren (K := lin m) (ρ := fun k => k) (G := G') (G' := G2) (B := B) (B' := B) (w := w') (w' := w') (D := Dm s.M) (D' := Dm (q3v m')) (fun b _ hn ho => ⟨rfl, hn, g2 b ho⟩) (fun k hk _ => ⟨qnt.2 (by rw [hd]; exact hk), rfl⟩) hV hk
  rwa [AVal.ren_id] at this
theorem qaq {P : Program} {s : AS} {x : Operand} {args : Array Operand} {ts : Array TypeId} {f : FuncId} {caps l fargs : List AVal} (hf : ev s.T x = .fn f caps) (hl : evs s.T args.toList ++ caps = l)
 {m m' : qe8} {L : Nat → Bool} {ρ σ : Nat → Nat} (hL : ∀ j, L j = true → lin m (σ j) = true ∧ ρ (σ j) = j) (hρ : ∀ k, lin m k = true → L (ρ k) = true ∧ σ (ρ k) = k) (hm : ∀ k cs, q3v m k = some (.cells cs) → s.M (ρ k) = some (.cells cs))
 (hst : ∀ p ∈ m, ∀ x ∈ p.2, q0j x = true) (hst' : ∀ p ∈ m', ∀ x ∈ p.2, q0j x = true) (hk : q7t L l = true) (ha : q79 σ l = fargs) {out : Out} (ho : match out with | .ret x => x.kin (lin m) = true | .pan x => x.kin (lin m) = true)
 (he : EvM P f fargs m out m') :
 zeo P s (.call ⟨.value x, args, ts⟩) (fun v M' => ∃ y, out = .ret y ∧ v = y.ren ρ ∧ M' = q1w s.M L σ m') (fun v M' => ∃ y, out = .pan y ∧ v = y.ren ρ ∧ M' = q1w s.M L σ m') := by
 intro n B G a w h o hop K Q hK hP
 subst hl
 subst ha
 cases out with
 | ret y => exact CallsM.wp (o := o) (L := L) (out := .ret (y.ren ρ)) (M' := q1w s.M L σ m') h (fun v' w' G' hA hR' hV => hK _ v' _ w' G' ⟨y, rfl, rfl, rfl⟩ hA hR' hV) ⟨x, args, ts, f, caps, m, m', ρ, σ, .ret y, hop, hf, hL, hρ, hm, hst, hst', hk, he, rfl, ho, rfl⟩
 | pan y => exact CallsM.wp (o := o) (L := L) (out := .pan (y.ren ρ)) (M' := q1w s.M L σ m') h (fun v' w' G' hA hR' hV => hP _ v' _ w' G' ⟨y, rfl, rfl, rfl⟩ hA hR' hV) ⟨x, args, ts, f, caps, m, m', ρ, σ, .pan y, hop, hf, hL, hρ, hm, hst, hst', hk, he, rfl, ho, rfl⟩
mutual
theorem AVal.stb_ren {ρ : Nat → Nat} : ∀ x : AVal, x.stb = true → x.ren ρ = x ∧ ∀ K, x.kin K = true
 | .ptr _ _, h | .eptr _ _ _ _ _, h | .os _ _, h | .vw _ _ _ _ _, h | .mp _, h | .own _ _, h | .hole, h | .ref _, h => by simp [AVal.stb] at h
 | .undef, h | .int _ _, h | .bool _, h | .str _, h | .nil, h | .sl _ _, h | .nilptr, h | .sptr _, h | .nilfn, h | .niliface, h => ⟨rfl, fun _ => h⟩
 | .agg cs, h => by
  have := q1u (ρ := ρ) cs (by simpa [AVal.stb] using h)
  exact ⟨by rw [AVal.ren, this.1], fun K => by rw [AVal.kin]; exact this.2 K⟩
 | .tup cs, h => by
  have := q1u (ρ := ρ) cs (by simpa [AVal.stb] using h)
  exact ⟨by rw [AVal.ren, this.1], fun K => by rw [AVal.kin]; exact this.2 K⟩
 | .fn f cs, h => by
  have := q1u (ρ := ρ) cs (by simpa [AVal.stb] using h)
  exact ⟨by rw [AVal.ren, this.1], fun K => by rw [AVal.kin]; exact this.2 K⟩
 | .iface t v, h => by
  have := AVal.stb_ren (ρ := ρ) v (by simpa [AVal.stb] using h)
  exact ⟨by rw [AVal.ren, this.1], fun K => by rw [AVal.kin]; exact this.2 K⟩
theorem q1u {ρ : Nat → Nat} : ∀ l : List AVal, q0i l = true → q79 ρ l = l ∧ ∀ K, q7t K l = true
 | [], _ => ⟨rfl, fun _ => rfl⟩
 | x :: l, h => by
  simp only [q0i, Bool.and_eq_true] at h
  obtain ⟨h1, h2⟩ := AVal.stb_ren (ρ := ρ) x h.1
  obtain ⟨h3, h4⟩ := q1u (ρ := ρ) l h.2
  exact ⟨by rw [q79, h1, h3], fun K => by rw [q7t, h2 K, h4 K]; rfl⟩
end
section
variable {E : Env} {Q : Ex → AS → Prop} {r : List SOp} {T : q12} {M : Mem} {dst : Option Tmp}
theorem q5j {p : Nat} {cs : List AVal} {k : Nat} : q3v [(p, cs)] k = if k = p then some (.cells cs) else none := by rw [qc4]; rfl
theorem q30 {p : Nat} {cs : List AVal} {k : Nat} : lin [(p, cs)] k = true ↔ k = p := by
 unfold lin
 rw [q5j]
 by_cases h : k = p <;> simp [h]
theorem q4y {M : Mem} {p k : Nat} {cs' : List AVal} : q1w M (fun j => j == k) (fun _ => p) [(p, cs')] = upd M k (some (.cells cs')) := by
 funext j
 unfold q1w
 by_cases h : j = k
 ·subst h; simp [q5j, q00]
 ·simp [h, q0h _ _ h]
theorem q5t {x : Operand} {args : Array Operand} {ts : Array TypeId} (p k : Nat) {f : FuncId} {caps l fargs cs cs' : List AVal} {v : AVal} (hf : ev T x = .fn f caps) (hl : evs T args.toList ++ caps = l) (hM : M k = some (.cells cs))
 (hk : q7t (fun j => j == k) l = true) (ha : q79 (fun _ => p) l = fargs) (hst : cs.all q0j = true) (hst' : cs'.all q0j = true) (hv : v.stb = true) (he : EvM E.P f fargs [(p, cs)] (.ret v) [(p, cs')])
 (kk : q06 E false none Q r (AS.put ⟨T, upd M k (some (.cells cs'))⟩ dst v)) : q06 E false none Q (⟨dst, .call ⟨.value x, args, ts⟩, none⟩ :: r) ⟨T, M⟩ := by
 refine q8w (qaq (s := ⟨T, M⟩) (ρ := fun _ => k) (σ := fun _ => p) (L := fun j => j == k) hf hl (fun j hj => ⟨q30.2 rfl, by simpa using (beq_iff_eq.1 hj).symm⟩) (fun j hj => ⟨by simp, (q30.1 hj).symm⟩)
  (fun j cs1 hj => ?_) (fun q hq x hx => ?_) (fun q hq x hx => ?_) hk ha ((AVal.stb_ren (ρ := fun _ => k) v hv).2 _) he) (fun y M' hy => ?_) (fun y M' hy => ?_)
 ·rw [q5j] at hj
  split at hj
  ·cases hj; exact hM
  ·cases hj
 ·rw [List.mem_singleton.1 hq] at hx; exact List.all_eq_true.1 hst x hx
 ·rw [List.mem_singleton.1 hq] at hx; exact List.all_eq_true.1 hst' x hx
 ·obtain ⟨z, hz, rfl, rfl⟩ := hy
  cases hz
  rw [(AVal.stb_ren (ρ := fun _ => k) v hv).1, q4y]
  exact kk
 ·obtain ⟨z, hz, _⟩ := hy
  cases hz
theorem q8v {x : Operand} {args : Array Operand} {ts : Array TypeId} (p k : Nat) {f : FuncId} {caps l fargs cs cs' : List AVal} {v : AVal} (hf : ev T x = .fn f caps) (hl : evs T args.toList ++ caps = l) (hM : M k = some (.cells cs))
 (hk : q7t (fun j => j == k) l = true) (ha : q79 (fun _ => p) l = fargs) (hst : cs.all q0j = true) (hst' : cs'.all q0j = true) (hv : v.kin (fun j => j == p) = true) (he : EvM E.P f fargs [(p, cs)] (.pan v) [(p, cs')])
 (kk : Q (.pan (v.ren fun _ => k)) ⟨T, upd M k (some (.cells cs'))⟩) : q06 E false none Q (⟨dst, .call ⟨.value x, args, ts⟩, none⟩ :: r) ⟨T, M⟩ := by
 have hlin : lin [(p, cs)] = fun j => j == p := by
  funext j
  cases hl : lin [(p, cs)] j with
  | true => simp [q30.1 hl]
  | false =>
   cases hq : j == p with
   | false => rfl
   | true => rw [q30.2 (beq_iff_eq.1 hq)] at hl; cases hl
 refine q8w (qaq (s := ⟨T, M⟩) (ρ := fun _ => k) (σ := fun _ => p) (L := fun j => j == k) hf hl (fun j hj => ⟨q30.2 rfl, by simpa using (beq_iff_eq.1 hj).symm⟩) (fun j hj => ⟨by simp, (q30.1 hj).symm⟩)
  (fun j cs1 hj => ?_) (fun q hq x hx => ?_) (fun q hq x hx => ?_) hk ha (by rw [hlin]; exact hv) he) (fun y M' hy => ?_) (fun y M' hy => ?_)
 ·rw [q5j] at hj
  split at hj
  ·cases hj; exact hM
  ·cases hj
 ·rw [List.mem_singleton.1 hq] at hx; exact List.all_eq_true.1 hst x hx
 ·rw [List.mem_singleton.1 hq] at hx; exact List.all_eq_true.1 hst' x hx
 ·obtain ⟨z, hz, _⟩ := hy
  cases hz
 ·obtain ⟨z, hz, rfl, rfl⟩ := hy
  cases hz
  rw [q4y]
  exact kk
end
end
def qsm : List SOp := [zO 1 (.box 177 (.tmp 0)),zO 2 (.alloc 177),zO 3 (.assign (.const (.bool false)))]
instance : Live qsm := ⟨[0]⟩
def qsl : List SOp := [zF 4 177 1 0,zL 5 3 4,zO 6 (.call ⟨.builtin .max,#[.tmp 5,.const (.int .i64 1)],#[3,3]⟩),zF 7 177 1 1,zL 8 3 7,zO 9 (.call ⟨.builtin .min,#[.tmp 8,.const (.int .i64 1000000000)],#[3,3]⟩),zF 10 177 1 0,⟨none,.store 3 (.tmp 10) (.tmp 6),none⟩,zF 11 177 1 1,⟨none,.store 3 (.tmp 11) (.tmp 9),none⟩]
instance : Live qsl := ⟨[1,2]⟩
def qf1 : List SOp := [zL 12 177 1,zF 13 177 1 0,zL 14 3 13,zF 15 177 1 1,zL 16 3 15,zO 17 (.binOp .leq 3 (.tmp 14) (.tmp 16) 3),⟨none,.store 177 (.tmp 2) (.tmp 12),none⟩,zG 3 17]
instance : Live qf1 := ⟨[1,2]⟩
instance : Rd qf1 := ⟨fun j => j == 1⟩
def t_k159 : SC :=
 (.seq (.ops false qsm) (.seq (.ops false qsl) (.seq (.opsW [] qf1) .ret)))
theorem it_k159 : FnIs Tryz.prog 159 18 [.cell 2 177, .tmp 3] t_k159 := ⟨Tryz.f159, _, Tryz.func159, rfl, rfl, rfl, rfl, by kernel_rfl⟩

def qsi : List SOp := [zO 2 (.box 177 (.tmp 0)),zO 3 (.box 177 (.tmp 1)),zO 4 (.assign (.const (.int .i64 0)))]
instance : Live qsi := ⟨[0,1]⟩
def qsh : List SOp := [zF 5 177 2 0,zL 6 3 5,zF 7 177 3 0,zL 8 3 7,zO 9 (.binOp .sub 3 (.tmp 6) (.tmp 8) 3),zG 4 9]
instance : Live qsh := ⟨[2,3]⟩
def t_k161 : SC :=
 (.seq (.ops false qsi) (.seq (.ops false qsh) .ret))
theorem it_k161 : FnIs Tryz.prog 161 10 [.tmp 4] t_k161 := ⟨Tryz.f161, _, Tryz.func161, rfl, rfl, rfl, rfl, by kernel_rfl⟩

def qsg : List SOp := [zO 3 (.box 177 (.tmp 1)),zO 4 (.assign (.const (.slice none 0 0)))]
instance : Live qsg := ⟨[0,1]⟩
def qsf : List SOp := [zM 6 0,zO 7 (.call ⟨.builtin .len,#[.tmp 6],#[173]⟩),zG 5 7]
instance : Live qsf := ⟨[0,3]⟩
def qse : List SOp := [zM 8 5,zO 9 (.binOp .gtr 3 (.tmp 8) (.const (.int .i64 0)) 3),zM 10 9,⟨some 11,.fieldAddr 177 (.tmp 3) 0,some ((some 10),true)⟩,⟨some 12,.load 3 (.tmp 11),some ((some 10),true)⟩,⟨some 13,.move (.tmp 0),some ((some 10),true)⟩,⟨some 14,.move (.tmp 5),some ((some 10),true)⟩,⟨some 15,.binOp .sub 3 (.tmp 14) (.const (.int .i64 1)) 3,some ((some 10),true)⟩,⟨some 16,.indexAddr 173 (.tmp 13) (.tmp 15),some ((some 10),true)⟩,⟨some 17,.fieldAddr 177 (.tmp 16) 1,some ((some 10),true)⟩,⟨some 18,.load 3 (.tmp 17),some ((some 10),true)⟩,⟨some 19,.binOp .add 3 (.tmp 18) (.const (.int .i64 1)) 3,some ((some 10),true)⟩,⟨some 20,.binOp .leq 3 (.tmp 12) (.tmp 19) 3,some ((some 10),true)⟩,zO 21 (.pick (.tmp 10) (.tmp 20) (.const (.bool false)))]
instance : Live qse := ⟨[0,3,5]⟩
def qsd : List SOp := [zM 22 0,zM 23 5,zO 24 (.binOp .sub 3 (.tmp 23) (.const (.int .i64 1)) 3),zM 25 0,zM 26 5,zO 27 (.binOp .sub 3 (.tmp 26) (.const (.int .i64 1)) 3),zI 28 173 25 27,zF 29 177 28 1,zL 30 3 29,zF 31 177 3 1,zL 32 3 31,zO 33 (.call ⟨.builtin .max,#[.tmp 30,.tmp 32],#[3,3]⟩),zI 34 173 22 24,zF 35 177 34 1,⟨none,.store 3 (.tmp 35) (.tmp 33),none⟩]
instance : Live qsd := ⟨[0,3,5]⟩
def qsc : List SOp := [zM 36 0,zG 4 36]
instance : Live qsc := ⟨[0]⟩
def qsb : List SOp := [zM 37 0,zL 38 177 3,zO 39 (.buildSlice 173 1 #[(0,.tmp 38)]),zO 40 (.call ⟨.builtin .append,#[.tmp 37,.tmp 39],#[173,173]⟩),zG 4 40]
instance : Live qsb := ⟨[0,3]⟩
def t_k162 : SC :=
 (.seq (.ops false qsg) (.seq (.seq (.ops false qsf) (.seq (.ops true qse) (.cond (.tmp 21) (.seq (.ops true qsd) (.seq (.ops false qsc) .ret)) .skip))) (.seq (.ops false qsb) .ret)))
theorem it_k162 : FnIs Tryz.prog 162 41 [.tmp 4] t_k162 := ⟨Tryz.f162, _, Tryz.func162, rfl, rfl, rfl, rfl, by kernel_rfl⟩

end Go.Proofs.YtkionmommpgcmaaGreat.Avm
