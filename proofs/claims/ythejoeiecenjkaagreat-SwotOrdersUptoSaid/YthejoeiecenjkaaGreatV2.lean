/- Part 2 of the proof: lemmas. -/
import Derived.Test.YthejoeiecenjkaaGreatV1
import Derived.Still
import Derived.Test.YthejoeiecenjkaaGreatProg
import Derived.KernelRfl
import Derived.Shelf.SlSortCmp.NoneTotal
set_option maxRecDepth 100000
set_option maxHeartbeats 4000000
set_option linter.unusedVariables false
set_option linter.unusedSimpArgs false
set_option linter.unusedSectionVars false
set_option linter.defProp false
namespace Go.Proofs.YthejoeiecenjkaaGreat.Avm
open Go.Proofs
theorem q9q {T T' : q1x} {l : List Operand} (h : ∀ x ∈ l, ev T x = ev T' x) : evs T l = evs T' l := List.map_congr_left h
theorem qot {T T' : q1x} {l : List (Nat × Operand)} (h : ∀ p ∈ l, ev T p.2 = ev T' p.2) : evp T l = evp T' l :=
 List.map_congr_left fun p hp => by simp [h p hp]
theorem zis {TE : TyE} {EQ : TypeId → Bool} {T T' : q1x} {M : Mem} {o : Oper} (h : ∀ x ∈ o.op.operands, ev T x = ev T' x) : opA TE EQ ⟨T, M⟩ o = opA TE EQ ⟨T', M⟩ o := by
 obtain ⟨dst, op, type, pos, after, guard⟩ := o
 simp only [opA]
 cases op <;> simp only [Op.operands] at h <;> (try rfl)
 case move x => simp only; rw [h x (by simp)]
 case assign x => simp only; rw [h x (by simp)]
 case pick c a b => simp only; rw [h c (by simp), h a (by simp), h b (by simp)]
 case box t x => simp only; rw [h x (by simp)]
 case build t ps => simp only; rw [qot fun p hp => h p.2 (by simp; exact ⟨p.1, by simpa using hp⟩)]
 case buildSlice t n ps => simp only; rw [qot fun p hp => h p.2 (by simp; exact ⟨p.1, by simpa using hp⟩)]
 case load t x => simp only; rw [h x (by simp)]
 case store t x y => simp only; rw [h x (by simp), h y (by simp)]
 case nilCheck x => simp only; rw [h x (by simp)]
 case binOp op t x y u => simp only; rw [h x (by simp), h y (by simp)]
 case unOp op t x => simp only; rw [h x (by simp)]
 case convert t u x => simp only; rw [h x (by simp)]
 case makeInterface t x => simp only; rw [h x (by simp)]
 case makeFunc f first caps =>
  cases f <;> simp only
  rw [q9q fun x hx => h x (by simp; exact .inr (by simpa using hx))]
 case makeSlice t x y => simp only; rw [h x (by simp), h y (by simp)]
 case slice t x lo hi mx =>
  have hx := h x (by simp)
  have hlo : lo.map (ev T) = lo.map (ev T') := by
   cases lo with
   | none => rfl
   | some l => simp [h l (by simp)]
  have hhi : hi.map (ev T) = hi.map (ev T') := by
   cases hi with
   | none => rfl
   | some l => simp [h l (by simp)]
  cases mx <;> simp only [hx, hlo, hhi]
 case fieldAddr t x f => simp only; rw [h x (by simp)]
 case field t x f => simp only; rw [h x (by simp)]
 case indexAddr t x y => simp only; rw [h x (by simp), h y (by simp)]
 case index t x y => simp only; rw [h x (by simp), h y (by simp)]
 case extract x i => simp only; rw [h x (by simp)]
 case makeMap t r => cases r <;> rfl
 case lookup t x k ok => simp only; rw [h x (by simp), h k (by simp)]
 case mapUpdate t m k x => simp only; rw [h m (by simp), h k (by simp), h x (by simp)]
 case call c =>
  obtain ⟨cl, args, ts⟩ := c
  cases cl <;> simp only
  rw [q9q fun x hx => h x (by simp [Call.operands]; simpa using hx)]
inductive Cls where | q | r | a | w
 deriving DecidableEq
def q6a : Op → Cls
 | .move _ | .assign _ | .pick .. | .build .. | .nilCheck _ | .unOp .. | .makeFunc .. | .fieldAddr .. | .field .. | .index .. | .extract .. | .makeInterface .. => .q
 | .buildSlice _ len _ => if len = 0 then .a else .q
 | .load .. | .binOp .. | .convert .. | .indexAddr .. | .slice .. | .lookup .. => .r
 | .call ⟨.value _, _, _⟩ => .r
 | .call ⟨.builtin .len, _, _⟩ => .r
 | .call ⟨.builtin .max, _, _⟩ => .q
 | .call ⟨.builtin .min, _, _⟩ => .q
 | .alloc _ | .box .. | .makeSlice .. | .makeMap .. => .a
 | _ => .w
def qr9 (ws : List Nat) (dst : Option Tmp) (op : Op) : Cls :=
 match op, dst with
 | .load _ _, some t => if ws.contains t = true then .w else .r
 | op, _ => q6a op
def qe3 (ws : Option (List Nat)) (dst : Option Tmp) (op : Op) : Cls :=
 match ws with
 | none => q6a op
 | some ws => qr9 ws dst op
theorem q2a {ws : Option (List Nat)} {dst : Option Tmp} {op : Op} {c : Cls} (h : qe3 ws dst op = c) (hc : c ≠ .w) : q6a op = c := by
 unfold qe3 at h
 cases ws with
 | none => exact h
 | some ws =>
  simp only at h
  unfold qr9 at h
  split at h
  ·split at h
   ·exact absurd h.symm hc
   ·exact h
  ·exact h
theorem q6y {x : Option AVal} {v : AVal} {ups : List (Nat × ABlk)} (h : (x.map fun v => (v, ([] : List (Nat × ABlk)))) = some (v, ups)) : ups = [] := by
 cases x <;> simp at h
 exact h.2.symm ▸ rfl
theorem opA_q {TE : TyE} {EQ : TypeId → Bool} {T : q1x} {M : Mem} {o : Oper} {v : AVal} {ups : List (Nat × ABlk)} (hc : q6a o.op = .q) (h : opA TE EQ ⟨T, M⟩ o = some (v, ups)) :
 ups = [] ∧ ∀ M', opA TE EQ ⟨T, M'⟩ o = some (v, []) := by
 obtain ⟨dst, op, type, pos, after, guard⟩ := o
 simp only [opA] at h ⊢
 cases op <;> simp only [q6a, reduceCtorEq] at hc <;> (try simp only at h ⊢)
 case move x => simp at h; exact ⟨h.2.symm ▸ rfl, fun _ => by rw [h.1]⟩
 case assign x => simp at h; exact ⟨h.2.symm ▸ rfl, fun _ => by rw [h.1]⟩
 case pick c a b => split at h <;> simp at h; exact ⟨h.2.symm ▸ rfl, fun _ => by simp [h.1]⟩
 case build t ps => have := q6y h; subst this; exact ⟨rfl, fun _ => h⟩
 case buildSlice t n ps =>
  split at hc
  ·cases hc
  ·rename_i hn
   unfold q22 at h ⊢
   simp only [hn, if_false] at h ⊢
   split at h
   case h_2 => simp at h
   rename_i e b1 b2 b3 ht
   try simp only [ht]
   split at h
   case h_2 => simp at h
   rename_i ei he
   try simp only [he]
   split at h
   case isFalse => simp at h
   rename_i hok
   try simp only [hok]
   split at h
   case h_2 => simp at h
   rename_i xs hx
   try simp only [hx]
   split at h
   case isFalse => simp at h
   rename_i hall
   simp at h
   exact ⟨h.2.symm ▸ rfl, fun _ => by simp [hall, h.1]⟩
 case nilCheck x => split at h <;> simp at h <;> exact ⟨h.2.symm ▸ rfl, fun _ => by simp [h.1]⟩
 case unOp op t x => have := q6y h; subst this; exact ⟨rfl, fun _ => h⟩
 case makeInterface t x =>
  split at h
  case h_2 => simp at h
  split at h
  ·simp at h
  ·rename_i i hi hn
   simp at h; exact ⟨h.2.symm ▸ rfl, fun _ => by simp [hn, h.1]⟩
 case makeFunc f first caps =>
  cases f <;> simp only [reduceCtorEq] at h ⊢
  split at h
  ·rename_i hz
   simp at h; exact ⟨h.2.symm ▸ rfl, fun _ => by simp [hz, h.1]⟩
  ·simp at h
 case fieldAddr t x f => have := q6y h; subst this; exact ⟨rfl, fun _ => h⟩
 case field t x f => have := q6y h; subst this; exact ⟨rfl, fun _ => h⟩
 case index t x y => have := q6y h; subst this; exact ⟨rfl, fun _ => h⟩
 case extract x i =>
  split at h
  case h_2 => simp at h
  ·rename_i vs hv
   have := q6y h; subst this; exact ⟨rfl, fun _ => h⟩
 case call c =>
  obtain ⟨cl, args, ts⟩ := c
  cases cl <;> simp only [reduceCtorEq] at hc h ⊢
  rename_i b
  unfold q2s at h ⊢
  cases b <;> simp only [reduceCtorEq] at hc h ⊢
  all_goals
   split at h <;> first | (simp at h; done) | skip
   all_goals first | (have := q6y h; subst this; exact ⟨rfl, fun _ => by simpa using h⟩) | skip
  all_goals simp_all
theorem opA_a {TE : TyE} {EQ : TypeId → Bool} {T : q1x} {M : Mem} {o : Oper} {v : AVal} {ups : List (Nat × ABlk)} (hc : q6a o.op = .a) (h : opA TE EQ ⟨T, M⟩ o = some (v, ups)) :
 ∃ d blk, o.dst = some d ∧ M d = none ∧ ups = [(d, blk)] ∧ ∀ M' : Mem, M' d = none → opA TE EQ ⟨T, M'⟩ o = some (v, ups) := by
 obtain ⟨dst, op, type, pos, after, guard⟩ := o
 simp only [opA] at h ⊢
 cases op <;> simp only [q6a, reduceCtorEq] at hc <;> (try simp only at h ⊢)
 case alloc t =>
  unfold q78 at h ⊢
  split at h
  case h_2 => simp at h
  rename_i i d ht
  split at h
  case h_2 => simp at h
  rename_i hM
  simp at h
  obtain ⟨rfl, rfl⟩ := h
  exact ⟨d, _, rfl, hM, rfl, fun M' h' => by simp [ht, h']⟩
 case box t x =>
  unfold boxA at h ⊢
  split at h
  case h_2 => simp at h
  rename_i d
  split at h
  case isFalse => simp at h
  rename_i hk
  split at h
  case h_2 => simp at h
  rename_i hM
  simp at h
  obtain ⟨rfl, rfl⟩ := h
  exact ⟨d, _, rfl, hM, rfl, fun M' h' => by simp [hk, h']⟩
 case buildSlice t n ps =>
  split at hc
  case isFalse => cases hc
  rename_i hn
  subst hn
  unfold q22 at h ⊢
  simp only [if_true] at h ⊢
  split at h
  case h_2 => simp at h
  rename_i e b1 b2 b3 ht
  try simp only [ht]
  split at h
  case h_2 => simp at h
  rename_i ei he
  try simp only [he]
  split at h
  case isFalse => simp at h
  rename_i hok
  try simp only [hok]
  split at h
  case h_2 => simp at h
  rename_i xs hx
  try simp only [hx]
  split at h
  case isFalse => simp at h
  rename_i hall
  split at h
  case h_2 => simp at h
  rename_i d
  split at h
  case h_2 => simp at h
  rename_i hM
  simp at h
  obtain ⟨rfl, rfl⟩ := h
  exact ⟨d, _, rfl, hM, rfl, fun M' h' => by simp [hall, h']⟩
 case makeSlice t l c =>
  unfold q1y at h ⊢
  split at h
  case h_2 => simp at h
  rename_i e b1 b2 b3 k1 n k2 m d ht hl hcv
  split at h
  case h_2 => simp at h
  rename_i ei he hM
  split at h
  case isFalse => simp at h
  rename_i hok
  simp at h
  obtain ⟨rfl, rfl⟩ := h
  exact ⟨d, _, rfl, hM, rfl, fun M' h' => by simp only [ht, hl, hcv, he, h']; rw [if_pos hok]⟩
 case makeMap t r =>
  cases r <;> simp only [reduceCtorEq] at h ⊢
  unfold q5y at h ⊢
  split at h
  case h_2 => simp at h
  rename_i d
  split at h
  case h_2 => simp at h
  rename_i hM
  simp at h
  obtain ⟨rfl, rfl⟩ := h
  exact ⟨d, _, rfl, hM, rfl, fun M' h' => by simp [h']⟩
 case call c =>
  obtain ⟨cl, args, ts⟩ := c
  cases cl <;> try (simp only [reduceCtorEq] at hc; done)
  rename_i b
  cases b <;> simp only [reduceCtorEq] at hc
def AVal.at : AVal → Option Nat
 | .ptr k _ => some k
 | .os k _ => some k
 | .eptr k _ _ _ _ => some k
 | .vw k _ _ _ _ => some k
 | .mp k => some k
 | _ => none
def Agr (M M' : Mem) (x : AVal) : Prop := ∀ k, x.at = some k → M' k = M k
def AVal.atR (op : Op) (x : AVal) : Option Nat :=
 match op with
 | .load _ _ => x.at
 | .lookup _ _ _ _ => x.at
 | _ => match x with
  | .os k _ => some k
  | _ => none
def zlt (M M' : Mem) (x : AVal) : Prop := ∀ k e, x = .os k e → M' k = M k
theorem Agr.o {M M' : Mem} {x : AVal} (h : Agr M M' x) : zlt M M' x := fun k e hx => h k (by rw [hx]; rfl)
theorem atR_at {op : Op} {x : AVal} {k : Nat} (h : x.atR op = some k) : x.at = some k := by
 unfold AVal.atR at h
 split at h
 ·exact h
 ·exact h
 ·split at h
  ·exact h
  ·cases h
theorem qqi {TE : TyE} {EQ : TypeId → Bool} {M M' : Mem} {t : TypeId} {x k : AVal} {ok : Bool} (ha : Agr M M' x) : q6b TE EQ M' t x k ok = q6b TE EQ M t x k ok := by
 unfold q6b
 cases TE t with
 | none => rfl
 | some i =>
  obtain ⟨td, a, b, c⟩ := i
  cases td <;> cases x <;> first | rfl | simp only [ha _ rfl]
theorem qd8 {TE : TyE} {EQ : TypeId → Bool} {M : Mem} {t : TypeId} {x k v : AVal} {ups : List (Nat × ABlk)} (h : q1o TE EQ M t x k v = some ups) :
 (∀ p ∈ ups, x.at = some p.1) ∧ ∀ M', Agr M M' x → q1o TE EQ M' t x k v = some ups := by
 refine ⟨fun p hp => ?_, fun M' ha => ?_⟩
 ·unfold q1o at h
  split at h
  case h_2 => cases h
  split at h
  case h_2 => cases h
  split at h
  case isFalse => cases h
  split at h
  ·simp only [Option.some.injEq] at h; subst h; simp at hp; subst hp; rfl
  ·simp only [Option.some.injEq] at h; subst h; simp at hp; subst hp; rfl
  ·cases h
 ·rw [← h]
  unfold q1o
  cases TE t with
  | none => rfl
  | some i =>
   obtain ⟨td, a, b, c⟩ := i
   cases td <;> cases x <;> first | rfl | simp only [ha _ rfl]
theorem zj5 {TE : TyE} {M M' : Mem} {t : TypeId} {d : Option Tmp} {x v : AVal} (ha : Agr M M' x) (h : q9k TE M t d x = some (v, [])) : q9k TE M' t d x = some (v, []) := by
 unfold q9k at h ⊢
 cases ht : TE t with
 | none => simp [ht] at h
 | some i =>
  simp only [ht] at h ⊢
  cases x <;> simp only at h ⊢ <;> try exact h
  case ptr k off =>
   rw [ha k rfl]
   cases hk : M k with
   | none => simp [hk] at h
   | some b =>
    simp only [hk] at h ⊢
    cases b <;> simp only at h ⊢ <;> try exact h
    split at h
    ·rename_i hg; rw [if_pos hg]; exact h
    ·rename_i hg
     rw [if_neg hg]
     rename_i cs
     cases hc : cs[off]? with
     | none => simp [hc] at h
     | some c =>
      simp only [hc] at h ⊢
      cases c <;> simp only at h ⊢ <;> try exact h
      cases d <;> simp only at h ⊢
      ·exact h
      ·split at h <;> simp at h
  case eptr k e sz i' off =>
   have := ha k rfl
   simp only [this]
   exact h
theorem z6w {M M' : Mem} {x : AVal} (ha : zlt M M' x) : qqe M' x = qqe M x := by
 unfold qqe
 cases x <;> first | rfl | (rename_i a b; cases b <;> rfl) | simp only [ha _ _ rfl]
theorem qgb {M M' : Mem} {sz : Nat} {x : AVal} (ha : zlt M M' x) : qhy M' sz x = qhy M sz x := by
 unfold qhy
 cases x <;> first | rfl | simp only [ha _ _ rfl]
theorem lenA_agr {TE : TyE} {M M' : Mem} {t : TypeId} {x : AVal} (ha : zlt M M' x) : zad TE M' t x = zad TE M t x := by
 unfold zad
 cases TE t with
 | none => rfl
 | some i =>
  cases x <;> cases hd : i.td <;> simp only [hd] <;> first | rfl | simp only [ha _ _ rfl]
theorem qel {TE : TyE} {M M' : Mem} {t : TypeId} {x i : AVal} (ha : zlt M M' x) : q1i TE M' t x i = q1i TE M t x i := by
 unfold q1i
 cases x <;> first | rfl | simp only [ha _ _ rfl]
theorem z8f {TE : TyE} {M M' : Mem} {t : TypeId} {x : AVal} {lo hi : Option AVal} (ha : zlt M M' x) : q5s TE M' t x lo hi = q5s TE M t x lo hi := by
 unfold q5s
 cases x <;> first | rfl | simp only [ha _ _ rfl]
theorem eqvA_agr {TE : TyE} {EQ : TypeId → Bool} {M M' : Mem} {t : TypeId} {x y : AVal} (hx : zlt M M' x) (hy : zlt M M' y) : qp0 TE EQ M' t x y = qp0 TE EQ M t x y := by
 unfold qp0
 split <;> first | rfl | simp only [z6w hx, z6w hy]
theorem binA_agr {TE : TyE} {EQ : TypeId → Bool} {M M' : Mem} {op : BinOp} {t : TypeId} {x y : AVal} (hx : zlt M M' x) (hy : zlt M M' y) : z7y TE EQ M' op t x y = z7y TE EQ M op t x y := by
 unfold z7y
 split <;> first | rfl | simp only [eqvA_agr hx hy]
theorem zl2 {TE : TyE} {M M' : Mem} {t u : TypeId} {x : AVal} (ha : zlt M M' x) : qdx TE M' t u x = qdx TE M t u x := by
 unfold qdx
 split <;> try rfl
 split <;> try rfl
 split <;> try rfl
 split <;> try rfl
 split <;> try rfl
 split <;> first | rfl | simp only [qgb ha]
theorem opA_r {TE : TyE} {EQ : TypeId → Bool} {T : q1x} {M M' : Mem} {o : Oper} {v : AVal} (hc : q6a o.op = .r) (ha : ∀ x ∈ o.op.operands, ∀ k, (ev T x).atR o.op = some k → M' k = M k) (h : opA TE EQ ⟨T, M⟩ o = some (v, [])) :
 opA TE EQ ⟨T, M'⟩ o = some (v, []) := by
 obtain ⟨dst, op, type, pos, after, guard⟩ := o
 simp only [opA] at h ⊢
 cases op <;> simp only [q6a, reduceCtorEq] at hc <;> simp only [Op.operands] at ha <;> (try simp only at h ⊢)
 case buildSlice => split at hc <;> cases hc
 case load t x => exact zj5 (fun k hk => ha x (by simp) k hk) h
 case binOp op t x y u => rw [binA_agr (M := M) (fun k e hx => ha x (by simp) k (by rw [hx]; rfl)) (fun k e hx => ha y (by simp) k (by rw [hx]; rfl))]; exact h
 case convert t u x => rw [zl2 (M := M) (fun k e hx => ha x (by simp) k (by rw [hx]; rfl))]; exact h
 case slice t x lo hi mx =>
  cases mx <;> simp only [reduceCtorEq] at h ⊢
  rw [z8f (M := M) (fun k e hx => ha x (by simp) k (by rw [hx]; rfl))]
  exact h
 case lookup t x k ok => rw [qqi (M := M) (fun k hk => ha x (by simp) k hk)]; exact h
 case indexAddr t x i => rw [qel (M := M) (fun k e hx => ha x (by simp) k (by rw [hx]; rfl))]; exact h
 case call c =>
  obtain ⟨cl, args, ts⟩ := c
  cases cl <;> simp only [reduceCtorEq] at hc h ⊢
  rename_i b
  unfold q2s at h ⊢
  cases b <;> simp only [reduceCtorEq] at hc h ⊢
  simp only [Call.operands] at ha
  generalize hL : evs T args.toList = L at h ⊢
  split at h <;> first | (simp at h; done) | (rename_i hq _; cases hq; done) | (rename_i hq; cases hq; done) | skip
  rename_i t x hb hts
  rw [lenA_agr (M := M)]
  ·exact h
  ·have : x ∈ evs T args.toList := by rw [hL]; simp
   obtain ⟨y, hy, rfl⟩ := List.mem_map.1 this
   exact fun k e hx => ha y (by simp; simpa using hy) k (by rw [hx]; rfl)

section
section
variable {P : Program} {TE : TyE} {EQ : TypeId → Bool} {RK : Option (List Nat × (Nat → Bool))}
def CallsA (P : Program) (s : AS) (o : Oper) (K : Nat → Bool) (out : Out) : Prop :=
 ∃ x args ts f caps, o.op = .call ⟨.value x, args, ts⟩ ∧ ev s.T x = .fn f caps ∧ q0j ((evs s.T args.toList ++ caps).map (fz K s.M)) = true ∧ Ev P f ((evs s.T args.toList ++ caps).map (fz K s.M)) out
def q6c : Op → Bool
 | .store _ _ _ => true
 | .load _ _ => true
 | .call ⟨.builtin .append, _, _⟩ => true
 | .mapUpdate _ _ _ _ => true
 | _ => false
def qhz (RK : Option (List Nat × (Nat → Bool))) (dst : Option Tmp) (op : Op) (T : q1x) : Bool :=
 match RK with
 | none => true
 | some (ws, K) =>
  match qr9 ws dst op with
  | .r => op.operands.toList.all fun x => match (ev T x).atR op with | some k => K k | none => true
  | .w => q6c op && (match dst with | some d => !K d | none => true) && op.operands.toList.all fun x => match (ev T x).at with | some k => !K k | none => true
  | _ => true
def StD (P : Program) (TE : TyE) (EQ : TypeId → Bool) (RK : Option (List Nat × (Nat → Bool))) (s : AS) (o : Oper) (v : AVal) (M' : Mem) : Prop :=
 (∃ ups, opA TE EQ s o = some (v, ups) ∧ M' = ap s.M ups ∧ (qe3 (RK.map (·.1)) o.dst o.op = .r → ups = []) ∧ qhz RK o.dst o.op s.T = true) ∨
 (∃ K, CallsA P s o K (.ret v) ∧ M' = s.M ∧ (v.flt = true ∨ K = fun _ => false) ∧ (RK.isSome = true → K = fun _ => false))
def qbw (ops : Array Oper) (o : Oper) (T : q1x) : Option Bool :=
 match o.guard with
 | none => some true
 | some (j, b) =>
  match (ops[j]?).bind (·.dst) with
  | none => some false
  | some t => match T t with
   | .bool c => some (c == b)
   | .tup _ => some false
   | _ => none
def YA (P : Program) (TE : TyE) (EQ : TypeId → Bool) (RK : Option (List Nat × (Nat → Bool))) (ops : Array Oper) (s : AS) (o : Oper) (v : AVal) (M' : Mem) : Prop :=
 (qbw ops o s.T = some true ∧ StD P TE EQ RK s o v M') ∨ (qbw ops o s.T = some false ∧ v = .tup [] ∧ M' = s.M)
theorem q96 {ops : Array Oper} {o : Oper} {n : Nat} {B : Nat → Prop} {G : Gh} {s : AS} {a : Act} {w : World} (h : Rel n B G s a w) {b : Bool} (hw : qbw ops o s.T = some b) :
 Region.wanted o (yielded ops a.tmps) = b := by
 unfold qbw at hw
 unfold Region.wanted
 cases hg : o.guard with
 | none => simp [hg] at hw; simpa using hw
 | some jb =>
  obtain ⟨j, want⟩ := jb
  simp only [hg] at hw ⊢
  unfold yielded
  cases ht : (ops[j]?).bind (·.dst) with
  | none => simp only [ht, Option.some.injEq] at hw; subst hw; simp
  | some t =>
   simp only [ht] at hw
   have hv := h.temps t
   cases hT : s.T t <;> simp only [hT, reduceCtorEq, Option.some.injEq] at hw <;> rw [hT] at hv
   case bool c =>
    subst hw
    rw [Array.getD_eq_getD_getElem?] at hv
    cases hx : a.tmps[t]? with
    | none => rw [hx] at hv; simp only [Option.getD_none, undef] at hv; cases hv
    | some u => rw [hx] at hv; simp only [Option.getD_some] at hv; cases hv; simp [hx]
   case tup cs =>
    subst hw
    rw [Array.getD_eq_getD_getElem?] at hv
    cases hx : a.tmps[t]? with
    | none => simp [hx]
    | some u => rw [hx] at hv; simp only [Option.getD_some] at hv; cases hv; simp [hx]
def Looks (ops : Array Oper) (o : Oper) (T T' : q1x) : Prop := ∀ t ∈ o.looksAt ops, T t = T' t
theorem Looks.ev {ops : Array Oper} {o : Oper} {T T' : q1x} (h : Looks ops o T T') {x : Operand} (hx : x ∈ o.op.operands) : Avm.ev T x = Avm.ev T' x := by
 cases x with
 | tmp t => exact h t (List.mem_append_left _ (List.mem_filterMap.2 ⟨.tmp t, by simpa using hx, rfl⟩))
 | _ => rfl
theorem Looks.want {ops : Array Oper} {o : Oper} {T T' : q1x} (h : Looks ops o T T') : qbw ops o T = qbw ops o T' := by
 unfold qbw
 cases hg : o.guard with
 | none => rfl
 | some jb =>
  obtain ⟨j, want⟩ := jb
  simp only
  cases ht : (ops[j]?).bind (·.dst) with
  | none => rfl
  | some t =>
   have : T t = T' t := h t (List.mem_append_right _ (by simp [hg, ht]))
   simp only [this]
theorem Looks.symm {ops : Array Oper} {o : Oper} {T T' : q1x} (h : Looks ops o T T') : Looks ops o T' T := fun t ht => (h t ht).symm
theorem Looks.put {ops : Array Oper} {o : Oper} {T : q1x} {M M' : Mem} {d : Option Tmp} {v : AVal} (h : ∀ e, d = some e → e ∉ o.looksAt ops) : Looks ops o T ((AS.put ⟨T, M⟩ d v).T) := by
 intro t ht
 cases d with
 | none => rfl
 | some e => exact (q15 _ _ fun he => h e rfl (by rw [← he]; exact ht)).symm
theorem Looks.calls {ops : Array Oper} {o : Oper} {T T' : q1x} {M : Mem} (h : Looks ops o T T') {K : Nat → Bool} {out : Out} (hc : CallsA P ⟨T, M⟩ o K out) : CallsA P ⟨T', M⟩ o K out := by
 obtain ⟨x, args, ts, f, caps, ho, hf, hs, he⟩ := hc
 have ha : evs T args.toList = evs T' args.toList := q9q fun y hy => h.ev (by rw [ho]; simp [Op.operands, Call.operands]; exact .inr (by simpa using hy))
 have hx : Avm.ev T x = Avm.ev T' x := h.ev (by rw [ho]; simp [Op.operands, Call.operands])
 simp only [ha] at hs he
 exact ⟨x, args, ts, f, caps, ho, hx ▸ hf, hs, he⟩
theorem z8i {dst : Option Tmp} {op : Op} {T T' : q1x} (h : ∀ x ∈ op.operands, Avm.ev T x = Avm.ev T' x) : qhz RK dst op T = qhz RK dst op T' := by
 have all_congr : ∀ (l : List Operand) (f g : Operand → Bool), (∀ x ∈ l, f x = g x) → l.all f = l.all g := by
  intro l f g hl
  induction l with
  | nil => rfl
  | cons y l ih => simp only [List.all_cons, hl y (by simp), ih fun x hx => hl x (by simp [hx])]
 unfold qhz
 cases RK with
 | none => rfl
 | some wK =>
  obtain ⟨ws, K⟩ := wK
  simp only
  cases qr9 ws dst op <;> simp only
  ·exact all_congr _ _ _ fun x hx => by rw [h x (by simpa using hx)]
  ·rw [all_congr _ _ _ fun x hx => by rw [h x (by simpa using hx)]]
theorem YA.congr {ops : Array Oper} {o : Oper} {T T' : q1x} {M M' : Mem} {v : AVal} (h : Looks ops o T T') (hy : YA P TE EQ RK ops ⟨T, M⟩ o v M') : YA P TE EQ RK ops ⟨T', M⟩ o v M' := by
 rcases hy with ⟨hw, hs⟩ | ⟨hw, h1, h2⟩
 ·refine .inl ⟨by rw [← h.want]; exact hw, ?_⟩
  rcases hs with ⟨ups, h1, h2, h3, h4⟩ | ⟨K, h1, h2, h3⟩
  ·exact .inl ⟨ups, by rw [← zis fun x hx => h.ev hx]; exact h1, h2, h3, by rw [← z8i fun x hx => h.ev hx]; exact h4⟩
  ·exact .inr ⟨K, h.calls h1, h2, h3⟩
 ·exact .inr ⟨by rw [← h.want]; exact hw, h1, h2⟩
def AVal.lv (M : Mem) (x : AVal) : Prop := ∀ k, x.at = some k → M k ≠ none
theorem VR.lv {G : Gh} {B : Nat → Prop} {M : Mem} {w : World} {x : AVal} {v : Value} (h : VR (Dm M) G B w x v) : x.lv M := by
 intro k hk
 cases h <;> simp only [AVal.at, reduceCtorEq, Option.some.injEq] at hk <;> subst hk <;> (intro hn; rename_i hd; first | exact q92 hn ‹_› | skip)
theorem AVal.lv.agr {M : Mem} {x : AVal} (h : x.lv M) {d : Nat} (hd : M d = none) (b : Option ABlk) : Agr M (upd M d b) x := fun k hk =>
 q15 _ _ fun he => h k hk (he ▸ hd)
theorem qh7 {M : Mem} {d : Nat} (hd : M d = none) (b : Option ABlk) (K : Nat → Bool) {x : AVal} (h : x.lv M) : fzc K (upd M d b) x = fzc K M x := by
 cases x <;> try rfl
 case os k e => simp only [fzc, h.agr hd b k rfl]
def AVal.lvs (M : Mem) (x : AVal) : Prop :=
 x.lv M ∧ (∀ cs, x = .agg cs → ∀ c ∈ cs, c.lv M) ∧ (∀ f cs, x = .fn f cs → ∀ c ∈ cs, c.lv M)
def MLv (M : Mem) : Prop := ∀ k cs, M k = some (.cells cs) → ∀ c ∈ cs, c.lv M
theorem zlb {M : Mem} (hM : MLv M) {d : Nat} (hd : M d = none) (b : Option ABlk) (K : Nat → Bool) {k : Nat} {cs : List AVal} (hk : M k = some (.cells cs)) :
 cs.map (fzc K (upd M d b)) = cs.map (fzc K M) := List.map_congr_left fun c hc => qh7 hd b K (hM k cs hk c hc)
theorem zik {M : Mem} (hM : MLv M) {d : Nat} (hd : M d = none) (b : Option ABlk) (K : Nat → Bool) {k off : Nat} (h : (AVal.ptr k off).lv M) :
 (if K k = true then (match (upd M d b) k with | some (.cells cs) => AVal.sptr ((cs.map (fzc K (upd M d b))).drop off) | _ => .undef) else .undef) =
 (if K k = true then (match M k with | some (.cells cs) => AVal.sptr ((cs.map (fzc K M)).drop off) | _ => .undef) else .undef) := by
 rw [h.agr hd b k rfl]
 split
 ·cases hk : M k with
  | none => rfl
  | some x => cases x <;> try rfl
              simp only [zlb hM hd b K hk]
 ·rfl
theorem zjr {M : Mem} (hM : MLv M) {d : Nat} (hd : M d = none) (b : Option ABlk) (K : Nat → Bool) {x : AVal} (h : x.lvs M) : fz K (upd M d b) x = fz K M x := by
 cases x <;> simp only [fz] <;> try exact qh7 hd b K h.1
 case ptr k off => exact zik hM hd b K h.1
 case agg cs => rw [List.map_congr_left fun c hc => qh7 hd b K (h.2.1 cs rfl c hc)]
 case fn f cs =>
  congr 1
  refine List.map_congr_left fun c hc => ?_
  have hl := h.2.2 f cs rfl c hc
  cases c <;> simp only <;> first | exact zik hM hd b K hl | exact qh7 hd b K hl
theorem VR.lvs {G : Gh} {B : Nat → Prop} {M : Mem} {w : World} {x : AVal} {v : Value} (h : VR (Dm M) G B w x v) : x.lvs M := by
 refine ⟨h.lv, fun cs hx c hc => ?_, fun f cs hx c hc => ?_⟩ <;> subst hx
 ·cases h with
  | agg _ vs hl h =>
   obtain ⟨i, hi, rfl⟩ := List.getElem_of_mem hc
   exact (h i cs[i] (vs[i]'(by rw [hl]; exact hi)) (by simp [hi]) (by simp [hl, hi])).lv
 ·cases h with
  | fn _ _ vs hl h =>
   obtain ⟨i, hi, rfl⟩ := List.getElem_of_mem hc
   exact (h i cs[i] (vs[i]'(by rw [hl]; exact hi)) (by simp [hi]) (by simp [hl, hi])).lv
theorem VR.caps_lvs {G : Gh} {B : Nat → Prop} {M : Mem} {w : World} {f : FuncId} {caps : List AVal} {v : Value} (h : VR (Dm M) G B w (.fn f caps) v) : ∀ y ∈ caps, y.lvs M := by
 intro y hy
 cases h with
 | fn _ _ vs hl h =>
  obtain ⟨i, hi, rfl⟩ := List.getElem_of_mem hy
  exact (h i caps[i] (vs[i]'(by rw [hl]; exact hi)) (by simp [hi]) (by simp [hl, hi])).lvs
theorem Rel.mlv {n : Nat} {B : Nat → Prop} {G : Gh} {s : AS} {a : Act} {w : World} (h : Rel n B G s a w) : MLv s.M := by
 intro k cs hk c hc
 obtain ⟨i, hi, rfl⟩ := List.getElem_of_mem hc
 obtain ⟨_, _, _, _, _, _, h5⟩ := h.mem k _ hk
 obtain ⟨u, _, hr⟩ := h5 i cs[i] (by simp [hi])
 generalize cs[i] = x at hr
 intro j hj
 cases x <;> simp only [AVal.at, reduceCtorEq] at hj <;> exact VR.lv hr j hj
def Inh (n : Nat) (s : AS) : Prop := ∃ B G a w, Rel n B G s a w
theorem Inh.lvs {n : Nat} {s : AS} (h : Inh n s) (x : Operand) : (ev s.T x).lvs s.M := let ⟨_, _, _, _, h⟩ := h; (h.ev x).lvs
theorem Inh.mlv {n : Nat} {s : AS} (h : Inh n s) : MLv s.M := let ⟨_, _, _, _, h⟩ := h; h.mlv
theorem YA.frame {ops : Array Oper} {n : Nat} {T : q1x} {M : Mem} {o : Oper} {v : AVal} {M' : Mem} (hi : Inh n ⟨T, M⟩) (hc : qe3 (RK.map (·.1)) o.dst o.op = .r) {d : Nat} (hd : M d = none) (b : Option ABlk)
 (h : YA P TE EQ RK ops ⟨T, M⟩ o v M') : M' = M ∧ YA P TE EQ RK ops ⟨T, upd M d b⟩ o v (upd M d b) := by
 rcases h with ⟨hw, hs⟩ | ⟨hw, h1, h2⟩
 ·rcases hs with ⟨ups, h1, h2, h3, h4⟩ | ⟨K, ⟨x, args, ts, f, caps, ho, hf, hst, he⟩, h2, h3⟩
  ·have := h3 hc
   subst this
   exact ⟨h2, .inl ⟨hw, .inl ⟨[], opA_r (q2a hc (by simp)) (fun x _ k hk => (hi.lvs x).1.agr hd b k (atR_at hk)) h1, rfl, fun _ => rfl, h4⟩⟩⟩
  ·refine ⟨h2, .inl ⟨hw, .inr ⟨K, ⟨x, args, ts, f, caps, ho, hf, ?_⟩, rfl, h3⟩⟩⟩
   have hl : (evs T args.toList ++ caps).map (fz K (upd M d b)) = (evs T args.toList ++ caps).map (fz K M) := by
    refine List.map_congr_left fun y hy => zjr hi.mlv hd b K ?_
    rcases List.mem_append.1 hy with hy | hy
    ·obtain ⟨z, _, rfl⟩ := List.mem_map.1 hy
     exact hi.lvs z
    ·have := (hi.lvs x).2.2 f caps hf y hy
     obtain ⟨_, _, _, _, hr⟩ := hi
     have hv := hr.ev x
     simp only at hf
     rw [hf] at hv
     exact VR.caps_lvs hv y hy
   simp only at hst he ⊢
   rw [hl]
   exact ⟨hst, he⟩
 ·exact ⟨h2, .inr ⟨hw, h1, rfl⟩⟩
theorem YA.unframe {ops : Array Oper} {n : Nat} {T : q1x} {M : Mem} {o : Oper} {v : AVal} {M' : Mem} (hi : Inh n ⟨T, M⟩) (hc : qe3 (RK.map (·.1)) o.dst o.op = .r) {d : Nat} (hd : M d = none) (b : Option ABlk)
 (h : YA P TE EQ RK ops ⟨T, upd M d b⟩ o v M') : M' = upd M d b ∧ YA P TE EQ RK ops ⟨T, M⟩ o v M := by
 have hback : ∀ x : AVal, x.lv M → Agr (upd M d b) M x := fun x hx k hk => (hx.agr hd b k hk).symm
 rcases h with ⟨hw, hs⟩ | ⟨hw, h1, h2⟩
 ·rcases hs with ⟨ups, h1, h2, h3, h4⟩ | ⟨K, ⟨x, args, ts, f, caps, ho, hf, hst, he⟩, h2, h3⟩
  ·have := h3 hc
   subst this
   exact ⟨h2, .inl ⟨hw, .inl ⟨[], opA_r (q2a hc (by simp)) (fun x _ k hk => hback _ (hi.lvs x).1 k (atR_at hk)) h1, rfl, fun _ => rfl, h4⟩⟩⟩
  ·refine ⟨h2, .inl ⟨hw, .inr ⟨K, ⟨x, args, ts, f, caps, ho, hf, ?_⟩, rfl, h3⟩⟩⟩
   have hl : (evs T args.toList ++ caps).map (fz K (upd M d b)) = (evs T args.toList ++ caps).map (fz K M) := by
    refine List.map_congr_left fun y hy => zjr hi.mlv hd b K ?_
    rcases List.mem_append.1 hy with hy | hy
    ·obtain ⟨z, _, rfl⟩ := List.mem_map.1 hy
     exact hi.lvs z
    ·obtain ⟨_, _, _, _, hr⟩ := hi
     have hv := hr.ev x
     simp only at hf
     rw [hf] at hv
     exact VR.caps_lvs hv y hy
   simp only at hst he ⊢
   rw [hl] at hst he
   exact ⟨hst, he⟩
 ·exact ⟨h2, .inr ⟨hw, h1, rfl⟩⟩
theorem YA.quiet {ops : Array Oper} {T : q1x} {M : Mem} {o : Oper} {v : AVal} {M' : Mem} (hc : q6a o.op = .q) (h : YA P TE EQ RK ops ⟨T, M⟩ o v M') : M' = M ∧ ∀ M1, YA P TE EQ RK ops ⟨T, M1⟩ o v M1 := by
 rcases h with ⟨hw, hs⟩ | ⟨hw, h1, h2⟩
 ·rcases hs with ⟨ups, h1, h2, h3, h4⟩ | ⟨K, ⟨x, args, ts, f, caps, ho, hf, hst, he⟩, h2, h3⟩
  ·obtain ⟨rfl, hq⟩ := opA_q hc h1
   exact ⟨h2, fun M1 => .inl ⟨hw, .inl ⟨[], hq M1, rfl, fun _ => rfl, h4⟩⟩⟩
  ·rw [ho] at hc; simp [q6a] at hc
 ·exact ⟨h2, fun M1 => .inr ⟨hw, h1, rfl⟩⟩
theorem YA.reads {ops : Array Oper} {T : q1x} {M : Mem} {o : Oper} {v : AVal} {M' : Mem} (hc : qe3 (RK.map (·.1)) o.dst o.op = .r) (h : YA P TE EQ RK ops ⟨T, M⟩ o v M') : M' = M := by
 rcases h with ⟨hw, hs⟩ | ⟨hw, h1, h2⟩
 ·rcases hs with ⟨ups, h1, h2, h3, h4⟩ | ⟨K, _, h2, h3⟩
  ·have := h3 hc; subst this; exact h2
  ·exact h2
 ·exact h2
theorem YA.makes {ops : Array Oper} {T : q1x} {M : Mem} {o : Oper} {v : AVal} {M' : Mem} (hc : q6a o.op = .a) (h : YA P TE EQ RK ops ⟨T, M⟩ o v M') :
 (M' = M ∧ ∀ M1, YA P TE EQ RK ops ⟨T, M1⟩ o v M1) ∨
 ∃ d blk, o.dst = some d ∧ M d = none ∧ M' = upd M d (some blk) ∧ ∀ M1 : Mem, M1 d = none → YA P TE EQ RK ops ⟨T, M1⟩ o v (upd M1 d (some blk)) := by
 rcases h with ⟨hw, hs⟩ | ⟨hw, h1, h2⟩
 ·rcases hs with ⟨ups, h1, h2, h3, h4⟩ | ⟨K, ⟨x, args, ts, f, caps, ho, hf, hst, he⟩, h2, h3⟩
  ·obtain ⟨d, blk, e1, e2, rfl, e4⟩ := opA_a hc h1
   exact .inr ⟨d, blk, e1, e2, h2, fun M1 hM => .inl ⟨hw, .inl ⟨_, e4 M1 hM, rfl, fun hr => (by rw [q2a hr (by simp)] at hc; cases hc), h4⟩⟩⟩
  ·rw [ho] at hc; simp [q6a] at hc
 ·exact .inl ⟨h2, fun M1 => .inr ⟨hw, h1, rfl⟩⟩
theorem z84 {M : Mem} {k : Nat} : ∀ {ups : List (Nat × ABlk)}, (∀ p ∈ ups, p.1 ≠ k) → ap M ups k = M k
 | [], _ => rfl
 | (j, b) :: r, h => by
  rw [ap, z84 (fun p hp => h p (by simp [hp])), q15 _ _ (fun e => h (j, b) (by simp) e.symm)]
theorem qq3 {M : Mem} {t : TypeId} {x v : AVal} {ups : List (Nat × ABlk)} (h : q6h TE M t x v = some ups) : (∀ p ∈ ups, x.at = some p.1 ∨ v.at = some p.1) ∧ ∀ M', Agr M M' x → Agr M M' v → q6h TE M' t x v = some ups := by
 unfold q6h at h ⊢
 cases ht : TE t with
 | none => simp [ht] at h
 | some i =>
  simp only [ht] at h ⊢
  split at h
  case isFalse => cases h
  rename_i hg
  cases x <;> simp only [reduceCtorEq] at h
  case ptr k off =>
   cases hm : M k with
   | none => simp [hm] at h
   | some blk =>
    cases blk <;> simp only [hm, reduceCtorEq] at h
    rename_i cs
    split at h
    case isFalse => cases h
    rename_i hle
    split at h
    ·rename_i k' e hc
     cases hm' : M k' with
     | none => simp [hm'] at h
     | some blk' =>
      cases blk' <;> simp only [hm', reduceCtorEq] at h
      split at h
      case isFalse => cases h
      rename_i he
      simp only [Option.some.injEq] at h
      subst h
      refine ⟨fun p hp => ?_, fun M' h1 h2 => ?_⟩
      ·simp only [List.mem_cons, List.not_mem_nil, or_false] at hp
       rcases hp with rfl | rfl
       ·exact .inl rfl
       ·exact .inr rfl
      ·simp only [h1 k rfl, h2 k' rfl, hm, hm', if_pos hg, if_pos hle, hc, if_pos he]
    ·rename_i hno
     simp only [Option.some.injEq] at h
     subst h
     refine ⟨fun p hp => ?_, fun M' h1 h2 => ?_⟩
     ·simp only [List.mem_cons, List.not_mem_nil, or_false] at hp
      subst hp
      exact .inl rfl
     ·simp only [h1 k rfl, hm, if_pos hg, if_pos hle]
  case eptr k e sz j off =>
   cases hm : M k with
   | none => simp [hm] at h
   | some blk =>
    cases blk <;> simp only [hm, reduceCtorEq] at h
    split at h
    case isFalse => cases h
    rename_i he
    split at h
    case h_2 => cases h
    rename_i y hy
    split at h
    case isFalse => cases h
    rename_i hle
    simp only [Option.some.injEq] at h
    subst h
    refine ⟨fun p hp => ?_, fun M' h1 h2 => ?_⟩
    ·simp only [List.mem_cons, List.not_mem_nil, or_false] at hp
     subst hp
     exact .inl rfl
    ·simp only [h1 k rfl, hm, if_pos hg, if_pos he, hy, if_pos hle]
theorem z8x {M : Mem} {t : TypeId} {d : Option Tmp} {x v : AVal} {ups : List (Nat × ABlk)} (h : q9k TE M t d x = some (v, ups)) :
 (∀ p ∈ ups, x.at = some p.1 ∨ d = some p.1) ∧ ∀ M', Agr M M' x → (∀ e, d = some e → M' e = M e) → q9k TE M' t d x = some (v, ups) := by
 unfold q9k at h ⊢
 cases ht : TE t with
 | none => simp [ht] at h
 | some i =>
  simp only [ht] at h ⊢
  cases x <;> simp only [reduceCtorEq] at h
  case ptr k off =>
   cases hm : M k with
   | none => simp [hm] at h
   | some blk =>
    cases blk <;> simp only [hm, reduceCtorEq] at h
    rename_i cs
    split at h
    ·rename_i hg
     split at h
     case isFalse => cases h
     rename_i hg2
     simp only [Option.some.injEq, Prod.mk.injEq] at h
     obtain ⟨rfl, rfl⟩ := h
     exact ⟨fun p hp => (by cases hp), fun M' h1 _ => by simp only [h1 k rfl, hm, if_pos hg, if_pos hg2]⟩
    ·rename_i hg
     cases hc : cs[off]? with
     | none => simp [hc] at h
     | some c =>
      simp only [hc] at h
      cases c <;> simp only [reduceCtorEq, Option.some.injEq, Prod.mk.injEq] at h
      case own sz xs =>
       cases d with
       | none => simp at h
       | some e =>
        cases hd : M e with
        | some q => simp [hd] at h
        | none =>
         simp only [hd, Option.some.injEq, Prod.mk.injEq] at h
         obtain ⟨rfl, rfl⟩ := h
         refine ⟨fun p hp => ?_, fun M' h1 h2 => by simp only [h1 k rfl, h2 e rfl, hm, if_neg hg, hc, hd]⟩
         simp only [List.mem_cons, List.not_mem_nil, or_false] at hp
         rcases hp with rfl | rfl
         ·exact .inl rfl
         ·exact .inr rfl
      all_goals
       obtain ⟨rfl, rfl⟩ := h
       exact ⟨fun p hp => (by cases hp), fun M' h1 _ => by simp only [h1 k rfl, hm, if_neg hg, hc]⟩
  case eptr k e sz j off =>
   refine ⟨?_, fun M' h1 _ => by simp only [h1 k rfl]; exact h⟩
   cases hm : M k with
   | none => simp [hm] at h
   | some blk =>
    cases blk <;> simp only [hm, reduceCtorEq] at h
    split at h
    case isFalse => cases h
    split at h
    case h_2 => cases h
    have := q6y h
    subst this
    intro p hp
    cases hp
  case sptr cs =>
   have := q6y h
   subst this
   exact ⟨fun p hp => (by cases hp), fun M' _ _ => h⟩
theorem qpn {M : Mem} {t1 t2 : TypeId} {d : Option Tmp} {x y v : AVal} {ups : List (Nat × ABlk)} (h : q5k TE M t1 t2 x y d = some (v, ups)) :
 (∀ p ∈ ups, x.at = some p.1 ∨ d = some p.1) ∧ ∀ M', Agr M M' x → Agr M M' y → (∀ e, d = some e → M' e = M e) → q5k TE M' t1 t2 x y d = some (v, ups) := by
 unfold q5k at h ⊢
 split at h
 case h_2 => cases h
 rename_i e s1 b1 z1 i2 h1 h2
 try simp only [h1, h2]
 split at h
 ·cases h
 rename_i ei he
 try simp only [he]
 split at h
 case isFalse => cases h
 rename_i hg
 try simp only [if_pos hg]
 cases hs : qhy M ei.size y with
 | none => simp [hs] at h
 | some ys =>
  simp only [hs] at h
  cases x <;> simp only [reduceCtorEq] at h
  case nil =>
   cases d with
   | none => simp at h
   | some d =>
    simp only at h
    cases hd : M d with
    | some q => simp [hd] at h
    | none =>
     simp only [hd] at h
     split at h
     case isFalse => cases h
     rename_i hb
     simp only [Option.some.injEq, Prod.mk.injEq] at h
     obtain ⟨rfl, rfl⟩ := h
     refine ⟨fun p hp => ?_, fun M' _ h4 h5 => by simp only [qgb h4.o, hs, h5 d rfl, hd, if_pos hb]⟩
     simp only [List.mem_cons, List.not_mem_nil, or_false] at hp
     subst hp
     exact .inr rfl
  case os k e' =>
   cases hm : M k with
   | none => simp [hm] at h
   | some blk =>
    cases blk <;> simp only [hm, reduceCtorEq] at h
    split at h
    case isFalse => cases h
    rename_i hb
    simp only [Option.some.injEq, Prod.mk.injEq] at h
    obtain ⟨rfl, rfl⟩ := h
    refine ⟨fun p hp => ?_, fun M' h3 h4 _ => by simp only [qgb h4.o, hs, h3 k rfl, hm, if_pos hb]⟩
    simp only [List.mem_cons, List.not_mem_nil, or_false] at hp
    subst hp
    exact .inl rfl
theorem zir {T : q1x} {M : Mem} {o : Oper} {v : AVal} {ups : List (Nat × ABlk)} {ws : List Nat} {K : Nat → Bool} (hc : qr9 ws o.dst o.op = .w) (hr : qhz (some (ws, K)) o.dst o.op T = true) (h : opA TE EQ ⟨T, M⟩ o = some (v, ups)) :
 (∀ p ∈ ups, K p.1 = false) ∧ ∀ M', (∀ k, K k = false → M' k = M k) → opA TE EQ ⟨T, M'⟩ o = some (v, ups) := by
 simp only [qhz, hc, Bool.and_eq_true] at hr
 obtain ⟨⟨h1, hd⟩, h2⟩ := hr
 obtain ⟨dst, op, type, pos, after, guard⟩ := o
 have hdk : ∀ e, dst = some e → K e = false := fun e he => by subst he; simpa using hd
 cases op <;> simp only [q6c, Bool.false_eq_true] at h1
 case store t a x =>
  simp only [opA] at h ⊢
  cases hs : q6h TE M t (ev T a) (ev T x) with
  | none => simp [hs] at h
  | some u =>
   simp only [hs, Option.map_some, Option.some.injEq, Prod.mk.injEq] at h
   obtain ⟨rfl, rfl⟩ := h
   obtain ⟨k1, k2⟩ := qq3 hs
   simp only [Op.operands, List.all_cons, List.all_nil, Bool.and_true, Bool.and_eq_true] at h2
   have ka : ∀ k, (ev T a).at = some k → K k = false := fun k hk => by have := h2.1; rw [hk] at this; simpa using this
   have kx : ∀ k, (ev T x).at = some k → K k = false := fun k hk => by have := h2.2; rw [hk] at this; simpa using this
   refine ⟨fun p hp => ?_, fun M' hM => ?_⟩
   ·rcases k1 p hp with h | h
    ·exact ka _ h
    ·exact kx _ h
   ·rw [k2 M' (fun k hk => hM k (ka k hk)) (fun k hk => hM k (kx k hk))]
    rfl
 case load t a =>
  simp only [opA] at h ⊢
  obtain ⟨k1, k2⟩ := z8x h
  simp only [Op.operands, List.all_cons, List.all_nil, Bool.and_true] at h2
  have ka : ∀ k, (ev T a).at = some k → K k = false := fun k hk => by have := h2; rw [hk] at this; simpa using this
  exact ⟨fun p hp => (k1 p hp).elim (ka _) (hdk _), fun M' hM => k2 M' (fun k hk => hM k (ka k hk)) (fun e he => hM e (hdk e he))⟩
 case mapUpdate t a x y =>
  simp only [opA] at h ⊢
  cases hs : q1o TE EQ M t (ev T a) (ev T x) (ev T y) with
  | none => simp [hs] at h
  | some u =>
   simp only [hs, Option.map_some, Option.some.injEq, Prod.mk.injEq] at h
   obtain ⟨rfl, rfl⟩ := h
   obtain ⟨k1, k2⟩ := qd8 hs
   simp only [Op.operands, List.all_cons, List.all_nil, Bool.and_true, Bool.and_eq_true] at h2
   have ka : ∀ k, (ev T a).at = some k → K k = false := fun k hk => by have := h2.1; rw [hk] at this; simpa using this
   refine ⟨fun p hp => ka _ (k1 p hp), fun M' hM => ?_⟩
   rw [k2 M' (fun k hk => hM k (ka k hk))]
   rfl
 case call c =>
  obtain ⟨cl, args, ts⟩ := c
  cases cl <;> try (simp only [Bool.false_eq_true] at h1; done)
  rename_i b
  cases b <;> try (simp only [Bool.false_eq_true] at h1; done)
  simp only [opA, q2s] at h ⊢
  have hk2 : ∀ y ∈ evs T args.toList, ∀ k, y.at = some k → K k = false := by
   intro y hy k hk
   obtain ⟨z, hz, rfl⟩ := List.mem_map.1 hy
   have := List.all_eq_true.1 h2 z (by simpa [Op.operands, Call.operands] using hz)
   rw [hk] at this
   simpa using this
  generalize evs T args.toList = L at h hk2 ⊢
  split at h <;> first | (cases h; done) | skip
  all_goals first | (rename_i hq _ _; cases hq; done) | (rename_i hq _; cases hq; done) | (rename_i hq; cases hq; done) | skip
  rename_i t1 t2 x y _ hts
  obtain ⟨k1, k2⟩ := qpn h
  have kx := hk2 x (by simp)
  have ky := hk2 y (by simp)
  exact ⟨fun p hp => (k1 p hp).elim (kx _) (hdk _), fun M' hM => k2 M' (fun k hk => hM k (kx k hk)) (fun k hk => hM k (ky k hk)) (fun e he => hM e (hdk e he))⟩
theorem fz_false (M M' : Mem) (x : AVal) : fz (fun _ => false) M' x = fz (fun _ => false) M x := by
 have h1 : ∀ y : AVal, fzc (fun _ => false) M' y = fzc (fun _ => false) M y := fun y => by cases y <;> rfl
 have h2 : fzc (fun _ => false) M' = fzc (fun _ => false) M := funext h1
 cases x <;> simp only [fz, h1, h2, Bool.false_eq_true, if_false]
theorem YA.rkeep {ops : Array Oper} {T : q1x} {M M1 : Mem} {o : Oper} {v : AVal} {M' : Mem} {ws : List Nat} {K : Nat → Bool} (hc : qr9 ws o.dst o.op = .r) (hM : ∀ k, K k = true → M1 k = M k) (h : YA P TE EQ (some (ws, K)) ops ⟨T, M⟩ o v M') :
 YA P TE EQ (some (ws, K)) ops ⟨T, M1⟩ o v M1 := by
 rcases h with ⟨hw, hs⟩ | ⟨hw, h1, h2⟩
 ·rcases hs with ⟨ups, h1, h2, h3, h4⟩ | ⟨Kf, ⟨x, args, ts, f, caps, ho, hf, hst, he⟩, h2, h3, h4⟩
  ·have := h3 hc
   subst this
   have hr := h4
   simp only [qhz, hc, List.all_eq_true] at hr
   refine .inl ⟨hw, .inl ⟨[], opA_r (q2a (ws := some ws) hc (by simp)) (fun x hx k hk => hM k ?_) h1, rfl, fun _ => rfl, h4⟩⟩
   have := hr x (by simpa using hx)
   rw [hk] at this
   exact this
  ·have := h4 rfl
   subst this
   have hl : (evs T args.toList ++ caps).map (fz (fun _ => false) M1) = (evs T args.toList ++ caps).map (fz (fun _ => false) M) := List.map_congr_left fun y _ => fz_false _ _ _
   exact .inl ⟨hw, .inr ⟨_, ⟨x, args, ts, f, caps, ho, hf, by rw [hl]; exact hst, by rw [hl]; exact he⟩, rfl, h3, h4⟩⟩
 ·exact .inr ⟨hw, h1, rfl⟩
theorem YA.wkeep {ops : Array Oper} {T : q1x} {M : Mem} {o : Oper} {v : AVal} {M' : Mem} {ws : List Nat} {K : Nat → Bool} (hc : qr9 ws o.dst o.op = .w) (h : YA P TE EQ (some (ws, K)) ops ⟨T, M⟩ o v M') :
 ∀ k, K k = true → M' k = M k := by
 rcases h with ⟨hw, hs⟩ | ⟨hw, h1, rfl⟩
 ·rcases hs with ⟨ups, h1, rfl, h3, h4⟩ | ⟨Kf, _, rfl, _⟩
  ·obtain ⟨k1, _⟩ := zir hc h4 h1
   intro k hk
   exact z84 fun p hp e => by have := k1 p hp; rw [e, hk] at this; cases this
  ·exact fun _ _ => rfl
 ·exact fun _ _ => rfl
end
end
section
section
variable {P : Program} {TE : TyE} {EQ : TypeId → Bool} {RK : Option (List Nat × (Nat → Bool))}
theorem AS.put_eq (T : q1x) (M M' : Mem) (d : Option Tmp) (v : AVal) : AS.put ⟨T, M⟩ d v = ⟨(AS.put ⟨T, M'⟩ d v).T, M⟩ := by cases d <;> rfl
theorem AS.put_comm (T : q1x) (M M1 M2 : Mem) {d e : Option Tmp} (v u : AVal) (h : ∀ x, d = some x → e ≠ some x) :
 AS.put ⟨(AS.put ⟨T, M1⟩ d v).T, M⟩ e u = AS.put ⟨(AS.put ⟨T, M2⟩ e u).T, M⟩ d v := by
 cases d with
 | none => cases e <;> rfl
 | some d =>
  cases e with
  | none => rfl
  | some e =>
   have hne : d ≠ e := fun he => h d rfl (he ▸ rfl)
   simp only [AS.put]
   rw [q97 T v u (Ne.symm hne)]
def z6u (rw : Bool) : Cls → Cls → Bool
 | .q, _ => true
 | _, .q => true
 | .r, .w => rw
 | .w, .r => rw
 | .r, .r => true
 | .a, .r => true
 | .r, .a => true
 | .a, .a => true
 | _, _ => false
def qg4 (rw : Option (List Nat)) (ops : Array Oper) (x y : Oper) : Bool := x.apart ops y && z6u rw.isSome (qe3 rw x.dst x.op) (qe3 rw y.dst y.op)
theorem YA.swap {ops : Array Oper} {oi oj : Oper} (hap : qg4 (RK.map (·.1)) ops oi oj = true) {n : Nat} {T : q1x} {M Mi Mij : Mem} {vi vj : AVal} (hi : Inh n ⟨T, M⟩)
 (h1 : YA P TE EQ RK ops ⟨T, M⟩ oi vi Mi) (h2 : YA P TE EQ RK ops (AS.put ⟨T, Mi⟩ oi.dst vi) oj vj Mij) :
 ∃ Mj, YA P TE EQ RK ops ⟨T, M⟩ oj vj Mj ∧ YA P TE EQ RK ops (AS.put ⟨T, Mj⟩ oj.dst vj) oi vi Mij := by
 simp only [qg4, Bool.and_eq_true] at hap
 obtain ⟨hap, hok⟩ := hap
 obtain ⟨a1, a2, a3⟩ := Oper.apart_spec hap
 have e2 : YA P TE EQ RK ops ⟨T, Mi⟩ oj vj Mij := by
  rw [AS.put_eq T Mi NoM] at h2
  exact YA.congr (Looks.put (M' := NoM) a1).symm h2
 have back : ∀ Mj, YA P TE EQ RK ops ⟨T, Mj⟩ oi vi Mij → YA P TE EQ RK ops (AS.put ⟨T, Mj⟩ oj.dst vj) oi vi Mij := fun Mj h => by
  rw [AS.put_eq T Mj NoM]
  exact YA.congr (Looks.put (M := NoM) (M' := NoM) a3) h
 cases ci : qe3 (RK.map (·.1)) oi.dst oi.op <;> cases cj : qe3 (RK.map (·.1)) oj.dst oj.op <;> simp only [ci, cj, z6u, Bool.false_eq_true] at hok
 case q.q => obtain ⟨rfl, q1⟩ := h1.quiet (q2a ci (by simp)); exact ⟨Mij, e2, back _ (q1 _)⟩
 case q.r => obtain ⟨rfl, q1⟩ := h1.quiet (q2a ci (by simp)); exact ⟨Mij, e2, back _ (q1 _)⟩
 case q.a => obtain ⟨rfl, q1⟩ := h1.quiet (q2a ci (by simp)); exact ⟨Mij, e2, back _ (q1 _)⟩
 case q.w => obtain ⟨rfl, q1⟩ := h1.quiet (q2a ci (by simp)); exact ⟨Mij, e2, back _ (q1 _)⟩
 case r.q => obtain ⟨rfl, q1⟩ := e2.quiet (q2a cj (by simp)); exact ⟨M, q1 _, back _ h1⟩
 case a.q => obtain ⟨rfl, q1⟩ := e2.quiet (q2a cj (by simp)); exact ⟨M, q1 _, back _ h1⟩
 case w.q => obtain ⟨rfl, q1⟩ := e2.quiet (q2a cj (by simp)); exact ⟨M, q1 _, back _ h1⟩
 case r.w =>
  cases RK with
  | none => simp at hok
  | some wK =>
   obtain ⟨ws, K⟩ := wK
   obtain rfl := h1.reads ci
   exact ⟨Mij, e2, back _ (h1.rkeep ci (e2.wkeep cj))⟩
 case w.r =>
  cases RK with
  | none => simp at hok
  | some wK =>
   obtain ⟨ws, K⟩ := wK
   have hk := h1.wkeep ci
   obtain rfl := e2.reads cj
   exact ⟨M, e2.rkeep cj (fun k hK => (hk k hK).symm), back _ h1⟩
 case r.r =>
  obtain rfl := h1.reads ci
  obtain rfl := e2.reads cj
  exact ⟨Mij, e2, back _ h1⟩
 case r.a =>
  obtain rfl := h1.reads ci
  rcases e2.makes (q2a cj (by simp)) with ⟨rfl, q1⟩ | ⟨d, blk, b1, b2, rfl, b4⟩
  ·exact ⟨Mij, e2, back _ h1⟩
  ·exact ⟨_, e2, back _ (h1.frame hi ci b2 _).2⟩
 case a.r =>
  rcases h1.makes (q2a ci (by simp)) with ⟨rfl, q1⟩ | ⟨d, blk, b1, b2, rfl, b4⟩
  ·exact ⟨Mij, e2, back _ (q1 _)⟩
  ·obtain ⟨rfl, f2⟩ := e2.unframe hi cj b2 _
   exact ⟨M, f2, back _ h1⟩
 case a.a =>
  rcases h1.makes (q2a ci (by simp)) with ⟨rfl, q1⟩ | ⟨d, blk, b1, b2, rfl, b4⟩
  ·exact ⟨Mij, e2, back _ (q1 _)⟩
  ·rcases e2.makes (q2a cj (by simp)) with ⟨rfl, q1⟩ | ⟨e, blk', c1, c2, rfl, c4⟩
   ·exact ⟨M, q1 _, back _ h1⟩
   ·have hne : d ≠ e := fun he => a2 d b1 (by rw [c1, he])
    rw [q15 _ _ (Ne.symm hne)] at c2
    refine ⟨_, c4 M c2, back _ ?_⟩
    rw [q97 M _ _ (Ne.symm hne)]
    exact b4 _ (by rw [q15 _ _ hne]; exact b2)
theorem CallsA.wp {s : AS} {o : Oper} {Kf : Nat → Bool} {out : Out} {n : Nat} {B : Nat → Prop} {G : Gh} {a : Act} {w : World} (h : Rel n B G s a w)
 {K : Act → World → Prop} {Q : Exit → Act → World → Prop}
 (hr : match out with
  | .ret x => ∀ v' w' G', Adv G w G' w' → Rel n B G' ⟨s.T, if x.flt = true then s.M else kill Kf s.M⟩ a w' → VR (Dm (if x.flt = true then s.M else kill Kf s.M)) G' B w' x v' → K (a.put o.dst v') w'
  | .pan x => ∀ v' w' G', Adv G w G' w' → Rel n B G' ⟨s.T, if x.flt = true then s.M else kill Kf s.M⟩ a w' → VR (Dm (if x.flt = true then s.M else kill Kf s.M)) G' B w' x v' → Q (.panic [{ v := v', recovered := false }]) a w') (hc : CallsA P s o Kf out) :
 o.wp P a w K Q := by
 obtain ⟨x, args, ts, f, caps, ho, hf, hst, he⟩ := hc
 obtain ⟨fn, hfn, hnm, hbd⟩ := he.1.ok
 have hx := h.ev x
 rw [hf] at hx
 generalize hxv : a.eval x = xv at hx
 cases hx with
 | fn _ _ vs hl hh =>
  have hrun : (execOp a.eval o).run P w = .ok (.enter f (args.map a.eval ++ vs)) w := by
   unfold execOp
   rw [ho]
   have h1 : (fn.name = "runtime.NumGoroutine") = False := by simpa using hnm
   have h2 : (fn.body = none) = False := by simp only [eq_iff_iff, iff_false]; intro hn; rw [hn] at hbd; simp at hbd
   simp [resolve, hxv, Deferred.ofValue, invoke, callFunc, hfn, h1, h2]
  unfold Oper.wp
  rw [hrun]
  simp only [Oper.upon]
  obtain ⟨q1, q2⟩ := qar h args
  refine call_ok h Kf (args := evs s.T args.toList ++ caps) (by simp [q1, hl]) (fun i y u hy hu => ?_) hst he ?_
  ·rcases Nat.lt_or_ge i (evs s.T args.toList).length with hlt | hge
   ·rw [List.getElem?_append_left hlt] at hy
    rw [Array.getElem?_append_left (by rw [q1]; exact hlt)] at hu
    obtain ⟨u', hu', hr'⟩ := q2 i y hy
    rw [hu] at hu'
    exact (Option.some.inj hu') ▸ hr'
   ·rw [List.getElem?_append_right hge] at hy
    rw [Array.getElem?_append_right (by rw [q1]; exact hge), q1] at hu
    exact hh _ y u hy hu
  ·cases out <;> exact hr
theorem YA.sound {ops : Array Oper} (hT : q45 P TE) (hE : ∀ t, EQ t = true → EqOk P t) {n : Nat} {B : Nat → Prop} {G : Gh} {s : AS} {a : Act} {w : World} (h : Rel n B G s a w) {o : Oper} {v : AVal} {M' : Mem}
 (hd : ∀ t, o.dst = some t → t < n) (hy : YA P TE EQ RK ops s o v M') {K : Act → World → Prop} {Q : Exit → Act → World → Prop}
 (hK : ∀ a' w' G', Adv G w G' w' → Rel n B G' (AS.put ⟨s.T, M'⟩ o.dst v) a' w' → K a' w') :
 if Region.wanted o (yielded ops a.tmps) = true then o.wp P a w K Q else K (a.put o.dst undef) w := by
 rcases hy with ⟨hw, hs⟩ | ⟨hw, rfl, rfl⟩
 ·rw [if_pos (q96 h hw)]
  rcases hs with ⟨ups, h1, rfl, h3, h4⟩ | ⟨Kf, hc, rfl, hk, _⟩
  ·obtain ⟨r, w', v', G', e1, e2, e3, e4, e5⟩ := opA_ok hT hE h h1
   unfold Oper.wp
   rw [e1]
   rcases e2 with rfl | ⟨rfl, rfl⟩
   ·exact hK _ _ G' e3 (e4.put hd e5)
   ·exact hK _ _ G' e3 (e4.put hd e5)
  ·refine CallsA.wp (out := .ret v) h (fun v' w' G' hA hR hV => ?_) hc
   have hM : (if v.flt = true then s.M else kill Kf s.M) = s.M := by
    rcases hk with hk | hk
    ·simp [hk]
    ·subst hk; simp [qdd]
   rw [hM] at hR hV
   exact hK _ _ G' hA (hR.put hd hV)
 ·rw [if_neg (by rw [q96 h hw]; simp)]
  refine hK _ _ G (.refl G w) (h.put hd ?_)
  exact .tup [] #[] rfl fun n x v hx => by simp at hx
theorem qi5 {o : Oper} {a : Act} {w : World} {K : Act → World → Prop} (h : o.wp P a w K (fun _ _ _ => False)) : ∃ a' w', K a' w' := by
 unfold Oper.wp at h
 generalize (execOp a.eval o).run P w = r at h
 cases r with
 | ok n w' =>
  cases n <;> simp only [Oper.upon] at h
  case value u => exact ⟨_, _, h⟩
  case skip => exact ⟨_, _, h⟩
  case defer d => exact ⟨_, _, h⟩
  case enter f args =>
   obtain ⟨e, w'', fr, hR, _⟩ := h []
   cases e with
   | returned v => exact ⟨_, _, hR⟩
   | panicked c => exact hR.elim
   | outgrown => obtain ⟨_, _, hf⟩ := hR; exact hf.elim
  case row row args =>
   obtain ⟨v, w'', hR, _⟩ := h default []
   exact ⟨_, _, hR⟩
 | halt x w' => cases x <;> simp only [Oper.upon] at h
theorem YA.inh {ops : Array Oper} (hT : q45 P TE) (hE : ∀ t, EQ t = true → EqOk P t) {n : Nat} {s : AS} (h : Inh n s) {o : Oper} {v : AVal} {M' : Mem}
 (hd : ∀ t, o.dst = some t → t < n) (hy : YA P TE EQ RK ops s o v M') : Inh n (AS.put ⟨s.T, M'⟩ o.dst v) := by
 obtain ⟨B, G, a, w, h⟩ := h
 have := YA.sound (Q := fun _ _ _ => False) (K := fun a' w' => ∃ G', Rel n B G' (AS.put ⟨s.T, M'⟩ o.dst v) a' w') hT hE h hd hy (fun a' w' G' _ hR => ⟨G', hR⟩)
 split at this
 ·obtain ⟨a', w', G', hR⟩ := qi5 this
  exact ⟨B, G', a', w', hR⟩
 ·obtain ⟨G', hR⟩ := this
  exact ⟨B, G', _, _, hR⟩
end
end
def EvNew (P : Program) (f : FuncId) (args : List AVal) (cs : List AVal) : Prop :=
 Callable P f ∧ ∀ (B : Nat → Prop) (w : World) (vs : Array Value) (G : Gh), (∀ b, G.ow b = none) → vs.size = args.length →
  (∀ (i : Nat) (x : AVal) (v : Value), args[i]? = some x → vs[i]? = some v → VR (Dm NoM) G B w x v) → (∀ b, B b → b < w.heap.size) →
  Calls P f vs w (fun e w' => ∃ (G' : Gh) (b : Nat) (c : Array Value) (el : TypeId), w.heap.size ≤ b ∧ b < w'.heap.size ∧ (G'.ow b ≠ none) ∧ Adv G w G' w' ∧
   e = .returned (.pointer (some ⟨b, 0, none⟩)) ∧ w'.heap[b]? = some (.cells c el (0, 0)) ∧ c.size = cs.length ∧
   ∀ (i : Nat) (x : AVal), cs[i]? = some x → ∃ u, c[i]? = some u ∧ VR (Dm NoM) G' B w' x u)
theorem za1 {P : Program} {n : Nat} {B : Nat → Prop} {G : Gh} {s : AS} {a : Act} {w : World} (h : Rel n B G s a w) {f : FuncId} {args cs : List AVal} {vs : Array Value} (hl : vs.size = args.length)
 (hv : ∀ (i : Nat) (x : AVal) (v : Value), args[i]? = some x → vs[i]? = some v → VR (Dm s.M) G B w x v) (hs : q0j (args.map (fz (fun _ => false) s.M)) = true) (he : EvNew P f (args.map (fz (fun _ => false) s.M)) cs)
 {k : Nat} (hk : s.M k = none) {R : Ending → World → Prop}
 (hr : ∀ v' w' G', Adv G w G' w' → Rel n B G' ⟨s.T, upd s.M k (some (.cells cs))⟩ a w' → VR (Dm (upd s.M k (some (.cells cs)))) G' B w' (.ptr k 0) v' → R (.returned v') w') :
 Calls P f vs w R := by
 let B' : Nat → Prop := fun b => B b ∨ G.ow b ≠ none
 let G0 : Gh := { G with ow := fun _ => none }
 have hargs : ∀ (i : Nat) (x : AVal) (v : Value), (args.map (fz (fun _ => false) s.M))[i]? = some x → vs[i]? = some v → VR (Dm NoM) G0 B' w x v := by
  intro i x v hx hvi
  have hst := q3w hs hx
  rw [List.getElem?_map] at hx
  cases ha : args[i]? with
  | none => simp [ha] at hx
  | some y =>
   simp only [ha, Option.map_some, Option.some.injEq] at hx
   subst hx
   refine (qqt (K := fun _ => false) h.mem (hv i y v ha hvi)).stable (fun b _ hn ho => ?_) hst
   have ho' : G.ow b = none := by
    simp only [Gh.without] at ho
    cases hb : G.ow b with
    | none => rfl
    | some key => simp [hb] at ho
   exact ⟨rfl, by simp only [B', not_or]; exact ⟨hn, fun hc => hc ho'⟩, rfl⟩
 have hB' : ∀ b, B' b → b < w.heap.size := fun b hb => by
  rcases hb with hb | hb
  ·exact (h.fr b hb).1
  ·exact h.ol b hb
 refine (he.2 B' w vs G0 (fun _ => rfl) (by simpa using hl) hargs hB').mono fun e w' ⟨G', b, c, el, hb1, hb2, hob, hA, heq, hheap, hcs, hcells⟩ => ?_
 subst heq
 have hsame : ∀ b', b' < w.heap.size → w'.heap[b']? = w.heap[b']? := fun b' hb => (hA.keep b' hb rfl).1
 let G1 : Gh := { β := upd G.β k b, hd := G.hd, ow := fun b' => if b' = b then some (.box k) else G.ow b', hd1 := G.hd1 }
 have g1 : ∀ b', b' < w.heap.size → G1.ow b' = G.ow b' := fun b' hlt => if_neg (by omega)
 have hA1 : Adv G w G1 w' := ⟨hA.os, hA.tape, hA.output, hA.size, fun b' hlt ho => ⟨hsame b' hlt, by rw [g1 b' hlt]; exact ho⟩⟩
 have hG : ∀ j e, Dm s.M j e → G1.β j = G.β j ∧ G1.hd j e = G.hd j e := fun j e hj => ⟨q15 _ _ (fun e' => by subst e'; exact q92 hk hj), rfl⟩
 have hnB : ¬ B b := fun hB => by have := (h.fr b hB).1; omega
 have hR1 : Rel n B G1 ⟨s.T, upd s.M k (some (.cells cs))⟩ a w' := by
  refine h.update hA1 k (.cells cs) (by rw [hk]; trivial) hG (fun b' key hlt _ ho _ => ⟨hsame b' hlt, by rw [g1 b' hlt]; exact ho⟩) (fun b' hne => ?_) ?_
  ·by_cases e : b' = b
   ·rw [e]; exact hb2
   ·have : G1.ow b' = G.ow b' := if_neg e
    rw [this] at hne
    exact Nat.lt_of_lt_of_le (h.ol b' hne) hA.size
  ·have hβ : G1.β k = b := q0a _ _ _
   refine ⟨c, el, by rw [hβ]; exact if_pos rfl, by rw [hβ]; exact hnB, by rw [hβ]; exact hheap, hcs, fun i x hx => ?_⟩
   obtain ⟨u, hu, hvr⟩ := hcells i x hx
   refine ⟨u, hu, CellRel.of_VR (hvr.mono (fun _ _ h => absurd h qeq) (fun _ _ h => absurd h qeq) fun b' hlt hn ho => ?_)⟩
   simp only [B', not_or, ne_eq, Classical.not_not] at hn
   have hne : b' ≠ b := fun e => by rw [e] at ho; exact hob ho
   exact ⟨rfl, hn.1, (if_neg hne).trans hn.2⟩
 refine hr _ w' G1 hA1 hR1 ?_
 have hβ : G1.β k = b := q0a _ _ _
 have := VR.ptr (D := Dm (upd s.M k (some (.cells cs)))) (G := G1) (B := B) (w := w') k 0 (by simp [Dm, q0a])
 rw [hβ] at this
 exact this
def EvFresh (P : Program) (f : FuncId) (args : List AVal) (sz : Nat) (xs : List AVal) : Prop :=
 Callable P f ∧ ∀ (B : Nat → Prop) (w : World) (vs : Array Value) (G : Gh), (∀ b, G.ow b = none) → vs.size = args.length →
  (∀ (i : Nat) (x : AVal) (v : Value), args[i]? = some x → vs[i]? = some v → VR (Dm NoM) G B w x v) → (∀ b, B b → b < w.heap.size) →
  Calls P f vs w (fun e w' => ∃ (G' : Gh) (v : Value) (key : OKey), e = .returned v ∧ Adv G w G' w' ∧ (∀ b, G'.ow b ≠ none → b < w'.heap.size) ∧ OwnAt (Dm NoM) G' B w' key sz xs v)
theorem qb4 {P : Program} {n : Nat} {B : Nat → Prop} {G : Gh} {s : AS} {a : Act} {w : World} (h : Rel n B G s a w) {f : FuncId} {args xs : List AVal} {sz : Nat} {vs : Array Value} (hl : vs.size = args.length)
 (hv : ∀ (i : Nat) (x : AVal) (v : Value), args[i]? = some x → vs[i]? = some v → VR (Dm s.M) G B w x v) (hs : q0j (args.map (fz (fun _ => false) s.M)) = true) (he : EvFresh P f (args.map (fz (fun _ => false) s.M)) sz xs)
 {k : Nat} (hk : s.M k = none) {R : Ending → World → Prop}
 (hr : ∀ v' w' G', Adv G w G' w' → Rel n B G' ⟨s.T, upd s.M k (some (.arr 0 sz xs))⟩ a w' → VR (Dm (upd s.M k (some (.arr 0 sz xs)))) G' B w' (.os k 0) v' → R (.returned v') w') :
 Calls P f vs w R := by
 let B' : Nat → Prop := fun b => B b ∨ G.ow b ≠ none
 let G0 : Gh := { G with ow := fun _ => none }
 have hargs : ∀ (i : Nat) (x : AVal) (v : Value), (args.map (fz (fun _ => false) s.M))[i]? = some x → vs[i]? = some v → VR (Dm NoM) G0 B' w x v := by
  intro i x v hx hvi
  have hst := q3w hs hx
  rw [List.getElem?_map] at hx
  cases ha : args[i]? with
  | none => simp [ha] at hx
  | some y =>
   simp only [ha, Option.map_some, Option.some.injEq] at hx
   subst hx
   refine (qqt (K := fun _ => false) h.mem (hv i y v ha hvi)).stable (fun b _ hn ho => ?_) hst
   have ho' : G.ow b = none := by
    simp only [Gh.without] at ho
    cases hb : G.ow b with
    | none => rfl
    | some key => simp [hb] at ho
   exact ⟨rfl, by simp only [B', not_or]; exact ⟨hn, fun hc => hc ho'⟩, rfl⟩
 have hB' : ∀ b, B' b → b < w.heap.size := fun b hb => by
  rcases hb with hb | hb
  ·exact (h.fr b hb).1
  ·exact h.ol b hb
 refine (he.2 B' w vs G0 (fun _ => rfl) (by simpa using hl) hargs hB').mono fun e w' ⟨G', v, key, heq, hA, hol, hown⟩ => ?_
 subst heq
 have hsame : ∀ b', b' < w.heap.size → w'.heap[b']? = w.heap[b']? := fun b' hb => (hA.keep b' hb rfl).1
 have hnone : ∀ b', b' < w.heap.size → G'.ow b' = none := fun b' hb => (hA.keep b' hb rfl).2
 let ow1 : Nat → Option OKey := fun b' => if w.heap.size ≤ b' then (if G'.ow b' = some key then some (.arr k) else none) else G.ow b'
 let G1 : Gh := G.setHd k 0 v hown.one ow1
 have g1 : ∀ b', b' < w.heap.size → G1.ow b' = G.ow b' := fun b' hlt => if_neg (by omega)
 have g2 : ∀ b', w.heap.size ≤ b' → G1.ow b' = if G'.ow b' = some key then some (.arr k) else none := fun b' hge => if_pos hge
 have hA1 : Adv G w G1 w' := ⟨hA.os, hA.tape, hA.output, hA.size, fun b' hlt ho => ⟨hsame b' hlt, by rw [g1 b' hlt]; exact ho⟩⟩
 have hG := qcd (G := G) (v := v) (hv := hown.one) (ow := ow1) (q92 (M := s.M) (e := 0) hk)
 have hblk : OwnAt (Dm (upd s.M k (some (.arr 0 sz xs)))) G1 B w' (.arr k) sz xs v := by
  refine hown.trade (fun b hb ho => ?_) (fun x _ u hr => hr.mono (fun _ _ h => absurd h qeq) (fun _ _ h => absurd h qeq) fun b' hlt hn ho => ?_)
  ·have hge : w.heap.size ≤ b := by
    rcases Nat.lt_or_ge b w.heap.size with h' | h'
    ·rw [hnone b h'] at ho; cases ho
    ·exact h'
   exact ⟨fun hB => hb (.inl hB), by rw [g2 b hge, if_pos ho]⟩
  ·simp only [B', not_or, ne_eq, Classical.not_not] at hn
   refine ⟨rfl, hn.1, ?_⟩
   rcases Nat.lt_or_ge b' w.heap.size with h' | h'
   ·rw [g1 b' h']; exact hn.2
   ·rw [g2 b' h', ho, if_neg (by simp)]
 have hR1 : Rel n B G1 ⟨s.T, upd s.M k (some (.arr 0 sz xs))⟩ a w' := by
  refine h.update hA1 k (.arr 0 sz xs) (by rw [hk]; trivial) hG (fun b' key' hlt _ ho _ => ⟨hsame b' hlt, by rw [g1 b' hlt]; exact ho⟩) (fun b' hne => ?_) ?_
  ·rcases Nat.lt_or_ge b' w.heap.size with h' | h'
   ·exact Nat.lt_of_lt_of_le h' hA.size
   ·rw [g2 b' h'] at hne
    split at hne
    ·rename_i hq; exact hol b' (by rw [hq]; simp)
    ·exact absurd rfl hne
  ·show OwnAt _ G1 B w' (.arr k) sz xs (G1.hd k 0)
   rw [show G1.hd k 0 = v from q3c]
   exact hblk
 exact hr v w' G1 hA1 hR1 (.os k 0 (by simp [Dm, q0a]) v q3c.symm)
def MakesB (P : Program) (f : FuncId) (args : List AVal) (e : Nat) (v : AVal) (blk : ABlk) : Prop :=
 (∃ cs, blk = .cells cs ∧ v = .ptr e 0 ∧ EvNew P f args cs) ∨ (∃ sz xs, blk = .arr 0 sz xs ∧ v = .os e 0 ∧ EvFresh P f args sz xs)
theorem MakesB.ok {P : Program} {f : FuncId} {args : List AVal} {e : Nat} {v : AVal} {blk : ABlk} (h : MakesB P f args e v blk) : Callable P f := by
 rcases h with ⟨_, _, _, h⟩ | ⟨_, _, _, _, h⟩
 ·exact h.1
 ·exact h.1
theorem qpg {P : Program} {n : Nat} {B : Nat → Prop} {G : Gh} {s : AS} {a : Act} {w : World} (h : Rel n B G s a w) {f : FuncId} {args : List AVal} {k : Nat} {v : AVal} {blk : ABlk} {vs : Array Value} (hl : vs.size = args.length)
 (hv : ∀ (i : Nat) (x : AVal) (v : Value), args[i]? = some x → vs[i]? = some v → VR (Dm s.M) G B w x v) (hs : q0j (args.map (fz (fun _ => false) s.M)) = true) (he : MakesB P f (args.map (fz (fun _ => false) s.M)) k v blk)
 (hk : s.M k = none) {R : Ending → World → Prop}
 (hr : ∀ v' w' G', Adv G w G' w' → Rel n B G' ⟨s.T, upd s.M k (some blk)⟩ a w' → VR (Dm (upd s.M k (some blk))) G' B w' v v' → R (.returned v') w') :
 Calls P f vs w R := by
 rcases he with ⟨cs, rfl, rfl, he⟩ | ⟨sz, xs, rfl, rfl, he⟩
 ·exact za1 h hl hv hs he hk hr
 ·exact qb4 h hl hv hs he hk hr

section
section
variable {P : Program} {TE : TyE} {EQ : TypeId → Bool} {RK : Option (List Nat × (Nat → Bool))}
def CallsN (P : Program) (s : AS) (o : Oper) (e : Nat) (v : AVal) (blk : ABlk) : Prop :=
 ∃ x args ts f caps, o.op = .call ⟨.value x, args, ts⟩ ∧ ev s.T x = .fn f caps ∧ q0j ((evs s.T args.toList ++ caps).map (fz (fun _ => false) s.M)) = true ∧ MakesB P f ((evs s.T args.toList ++ caps).map (fz (fun _ => false) s.M)) e v blk
def NewK (P : Program) (RK : Option (List Nat × (Nat → Bool))) (ops : Array Oper) (s : AS) (o : Oper) (v : AVal) (e : Nat) (blk : ABlk) : Prop :=
 qbw ops o s.T = some true ∧ RK = none ∧ o.dst = some e ∧ s.M e = none ∧ CallsN P s o e v blk
def YN (P : Program) (TE : TyE) (EQ : TypeId → Bool) (RK : Option (List Nat × (Nat → Bool))) (ops : Array Oper) (s : AS) (o : Oper) (v : AVal) (M' : Mem) : Prop :=
 YA P TE EQ RK ops s o v M' ∨ ∃ e blk, NewK P RK ops s o v e blk ∧ M' = upd s.M e (some blk)
theorem NewK.cls {ops : Array Oper} {s : AS} {o : Oper} {v : AVal} {e : Nat} {blk : ABlk} (h : NewK P RK ops s o v e blk) : qe3 (RK.map (·.1)) o.dst o.op = .r := by
 obtain ⟨_, rfl, _, _, x, args, ts, f, caps, ho, _⟩ := h
 rw [ho]
 rfl
theorem NewK.congr {ops : Array Oper} {o : Oper} {T T' : q1x} {M : Mem} {v : AVal} {e : Nat} {blk : ABlk} (h : Looks ops o T T') (hn : NewK P RK ops ⟨T, M⟩ o v e blk) : NewK P RK ops ⟨T', M⟩ o v e blk := by
 obtain ⟨h1, h2, h3, h4, x, args, ts, f, caps, ho, hf, hs, he⟩ := hn
 have ha : evs T args.toList = evs T' args.toList := q9q fun y hy => h.ev (by rw [ho]; simp [Op.operands, Call.operands]; exact .inr (by simpa using hy))
 have hx : ev T x = ev T' x := h.ev (by rw [ho]; simp [Op.operands, Call.operands])
 refine ⟨by rw [← h.want]; exact h1, h2, h3, h4, x, args, ts, f, caps, ho, ?_, ?_, ?_⟩
 ·simp only at hf ⊢; rw [← hx]; exact hf
 ·simp only at hs ⊢; rw [← ha]; exact hs
 ·simp only at he ⊢; rw [← ha]; exact he
theorem z83 {n : Nat} {T : q1x} {M : Mem} (hi : Inh n ⟨T, M⟩) {d : Nat} (hd : M d = none) (b : Option ABlk) {x : Operand} {f : FuncId} {caps : List AVal} (hf : ev T x = .fn f caps) (l : List Operand) :
 (evs T l ++ caps).map (fz (fun _ => false) (upd M d b)) = (evs T l ++ caps).map (fz (fun _ => false) M) := by
 refine List.map_congr_left fun y hy => zjr hi.mlv hd b _ ?_
 rcases List.mem_append.1 hy with hy | hy
 ·obtain ⟨z, _, rfl⟩ := List.mem_map.1 hy
  exact hi.lvs z
 ·obtain ⟨_, _, _, _, hr⟩ := hi
  have hv := hr.ev x
  simp only at hv
  rw [hf] at hv
  exact VR.caps_lvs hv y hy
theorem NewK.frame {ops : Array Oper} {n : Nat} {T : q1x} {M : Mem} {o : Oper} {v : AVal} {e : Nat} {blk : ABlk} (hi : Inh n ⟨T, M⟩) {d : Nat} (hd : M d = none) (hne : e ≠ d) (b : Option ABlk) (hn : NewK P RK ops ⟨T, M⟩ o v e blk) : NewK P RK ops ⟨T, upd M d b⟩ o v e blk := by
 obtain ⟨h1, h2, h3, h4, x, args, ts, f, caps, ho, hf, hs, he⟩ := hn
 simp only at hf hs he h4
 have hl := z83 hi hd b hf args.toList
 refine ⟨h1, h2, h3, ?_, x, args, ts, f, caps, ho, hf, ?_, ?_⟩
 ·simp only; rw [q15 _ _ hne]; exact h4
 ·simp only; rw [hl]; exact hs
 ·simp only; rw [hl]; exact he
theorem NewK.unframe {ops : Array Oper} {n : Nat} {T : q1x} {M : Mem} {o : Oper} {v : AVal} {e : Nat} {blk : ABlk} (hi : Inh n ⟨T, M⟩) {d : Nat} (hd : M d = none) (hne : e ≠ d) (b : Option ABlk) (hn : NewK P RK ops ⟨T, upd M d b⟩ o v e blk) : NewK P RK ops ⟨T, M⟩ o v e blk := by
 obtain ⟨h1, h2, h3, h4, x, args, ts, f, caps, ho, hf, hs, he⟩ := hn
 simp only at hf hs he h4
 have hl := z83 hi hd b hf args.toList
 rw [hl] at hs he
 rw [q15 _ _ hne] at h4
 exact ⟨h1, h2, h3, h4, x, args, ts, f, caps, ho, hf, hs, he⟩
theorem YN.congr {ops : Array Oper} {o : Oper} {T T' : q1x} {M M' : Mem} {v : AVal} (h : Looks ops o T T') (hy : YN P TE EQ RK ops ⟨T, M⟩ o v M') : YN P TE EQ RK ops ⟨T', M⟩ o v M' := by
 rcases hy with hy | ⟨e, blk, hn, hM⟩
 ·exact .inl (hy.congr h)
 ·exact .inr ⟨e, blk, hn.congr h, hM⟩
theorem YN.swap {ops : Array Oper} {oi oj : Oper} (hap : qg4 (RK.map (·.1)) ops oi oj = true) {n : Nat} {T : q1x} {M Mi Mij : Mem} {vi vj : AVal} (hi : Inh n ⟨T, M⟩)
 (h1 : YN P TE EQ RK ops ⟨T, M⟩ oi vi Mi) (h2 : YN P TE EQ RK ops (AS.put ⟨T, Mi⟩ oi.dst vi) oj vj Mij) :
 ∃ Mj, YN P TE EQ RK ops ⟨T, M⟩ oj vj Mj ∧ YN P TE EQ RK ops (AS.put ⟨T, Mj⟩ oj.dst vj) oi vi Mij := by
 have hap0 := hap
 simp only [qg4, Bool.and_eq_true] at hap
 obtain ⟨hap, hok⟩ := hap
 obtain ⟨a1, a2, a3⟩ := Oper.apart_spec hap
 have e2 : YN P TE EQ RK ops ⟨T, Mi⟩ oj vj Mij := by
  rw [AS.put_eq T Mi NoM] at h2
  exact YN.congr (Looks.put (M' := NoM) a1).symm h2
 have back : ∀ Mj, YN P TE EQ RK ops ⟨T, Mj⟩ oi vi Mij → YN P TE EQ RK ops (AS.put ⟨T, Mj⟩ oj.dst vj) oi vi Mij := fun Mj h => by
  rw [AS.put_eq T Mj NoM]
  exact YN.congr (Looks.put (M := NoM) (M' := NoM) a3) h
 rcases h1 with h1 | ⟨e, blk, n1, rfl⟩
 ·rcases e2 with e2 | ⟨e, blk, n2, rfl⟩
  ·have h2' : YA P TE EQ RK ops (AS.put ⟨T, Mi⟩ oi.dst vi) oj vj Mij := by
    rw [AS.put_eq T Mi NoM]
    exact YA.congr (Looks.put (M' := NoM) a1) e2
   obtain ⟨Mj, q1, q2⟩ := YA.swap hap0 hi h1 h2'
   exact ⟨Mj, .inl q1, .inl q2⟩
  ·have cj := n2.cls
   have hrk : RK = none := n2.2.1
   have hdst : oj.dst = some e := n2.2.2.1
   cases ci : qe3 (RK.map (·.1)) oi.dst oi.op <;> simp only [ci, cj, z6u, Bool.false_eq_true] at hok
   case q =>
    obtain ⟨rfl, q1⟩ := h1.quiet (q2a ci (by simp))
    exact ⟨_, .inr ⟨e, blk, n2, rfl⟩, back _ (.inl (q1 _))⟩
   case r =>
    obtain rfl := h1.reads ci
    exact ⟨_, .inr ⟨e, blk, n2, rfl⟩, back _ (.inl (h1.frame hi ci n2.2.2.2.1 _).2)⟩
   case a =>
    rcases h1.makes (q2a ci (by simp)) with ⟨rfl, q1⟩ | ⟨d, b, b1, b2, rfl, b4⟩
    ·exact ⟨_, .inr ⟨e, blk, n2, rfl⟩, back _ (.inl (q1 _))⟩
    ·have hne : e ≠ d := fun he => a2 d b1 (by rw [hdst, he])
     have n3 := n2.unframe hi b2 hne _
     refine ⟨_, .inr ⟨e, blk, n3, rfl⟩, back _ (.inl ?_)⟩
     have := b4 (upd M e (some blk)) (by rw [q15 _ _ (Ne.symm hne)]; exact b2)
     simp only
     rw [q97 M _ _ hne]
     exact this
   case w => subst hrk; simp at hok
 ·have ci := n1.cls
  have hrk : RK = none := n1.2.1
  have hdst : oi.dst = some e := n1.2.2.1
  have hfree : M e = none := n1.2.2.2.1
  rcases e2 with e2 | ⟨e', blk', n2, rfl⟩
  ·cases cj : qe3 (RK.map (·.1)) oj.dst oj.op <;> simp only [ci, cj, z6u, Bool.false_eq_true] at hok
   case q =>
    obtain ⟨rfl, q1⟩ := e2.quiet (q2a cj (by simp))
    exact ⟨M, .inl (q1 _), back _ (.inr ⟨e, blk, n1, rfl⟩)⟩
   case r =>
    obtain ⟨rfl, f2⟩ := e2.unframe hi cj hfree _
    exact ⟨M, .inl f2, back _ (.inr ⟨e, blk, n1, rfl⟩)⟩
   case a =>
    rcases e2.makes (q2a cj (by simp)) with ⟨rfl, q1⟩ | ⟨d, b, b1, b2, rfl, b4⟩
    ·exact ⟨M, .inl (q1 _), back _ (.inr ⟨e, blk, n1, rfl⟩)⟩
    ·have hne : e ≠ d := fun he => a2 e hdst (by rw [b1, he])
     simp only at b2
     rw [q15 _ _ (Ne.symm hne)] at b2
     refine ⟨_, .inl (b4 M b2), back _ (.inr ⟨e, blk, n1.frame hi b2 hne _, ?_⟩)⟩
     exact q97 M _ _ (Ne.symm hne)
   case w => subst hrk; simp at hok
  ·have hdst' : oj.dst = some e' := n2.2.2.1
   have hne : e ≠ e' := fun he => a2 e hdst (by rw [hdst', he])
   have n3 := n2.unframe hi hfree (Ne.symm hne) _
   refine ⟨_, .inr ⟨e', blk', n3, rfl⟩, back _ (.inr ⟨e, blk, n1.frame hi n3.2.2.2.1 hne _, ?_⟩)⟩
   exact q97 M _ _ (Ne.symm hne)
theorem CallsN.wp {s : AS} {o : Oper} {v : AVal} {blk : ABlk} {n : Nat} {B : Nat → Prop} {G : Gh} {a : Act} {w : World} (h : Rel n B G s a w) {k : Nat} (hk : s.M k = none)
 {K : Act → World → Prop} {Q : Exit → Act → World → Prop}
 (hr : ∀ v' w' G', Adv G w G' w' → Rel n B G' ⟨s.T, upd s.M k (some blk)⟩ a w' → VR (Dm (upd s.M k (some blk))) G' B w' v v' → K (a.put o.dst v') w') (hc : CallsN P s o k v blk) :
 o.wp P a w K Q := by
 obtain ⟨x, args, ts, f, caps, ho, hf, hst, he⟩ := hc
 obtain ⟨fn, hfn, hnm, hbd⟩ := he.ok.ok
 have hx := h.ev x
 rw [hf] at hx
 generalize hxv : a.eval x = xv at hx
 cases hx with
 | fn _ _ vs hl hh =>
  have hrun : (execOp a.eval o).run P w = .ok (.enter f (args.map a.eval ++ vs)) w := by
   unfold execOp
   rw [ho]
   have h1 : (fn.name = "runtime.NumGoroutine") = False := by simpa using hnm
   have h2 : (fn.body = none) = False := by simp only [eq_iff_iff, iff_false]; intro hn; rw [hn] at hbd; simp at hbd
   simp [resolve, hxv, Deferred.ofValue, invoke, callFunc, hfn, h1, h2]
  unfold Oper.wp
  rw [hrun]
  simp only [Oper.upon]
  obtain ⟨q1, q2⟩ := qar h args
  refine qpg h (args := evs s.T args.toList ++ caps) (by simp [q1, hl]) (fun i y u hy hu => ?_) hst he hk hr
  rcases Nat.lt_or_ge i (evs s.T args.toList).length with hlt | hge
  ·rw [List.getElem?_append_left hlt] at hy
   rw [Array.getElem?_append_left (by rw [q1]; exact hlt)] at hu
   obtain ⟨u', hu', hr'⟩ := q2 i y hy
   rw [hu] at hu'
   exact (Option.some.inj hu') ▸ hr'
  ·rw [List.getElem?_append_right hge] at hy
   rw [Array.getElem?_append_right (by rw [q1]; exact hge), q1] at hu
   exact hh _ y u hy hu
theorem YN.sound {ops : Array Oper} (hT : q45 P TE) (hE : ∀ t, EQ t = true → EqOk P t) {n : Nat} {B : Nat → Prop} {G : Gh} {s : AS} {a : Act} {w : World} (h : Rel n B G s a w) {o : Oper} {v : AVal} {M' : Mem}
 (hd : ∀ t, o.dst = some t → t < n) (hy : YN P TE EQ RK ops s o v M') {K : Act → World → Prop} {Q : Exit → Act → World → Prop}
 (hK : ∀ a' w' G', Adv G w G' w' → Rel n B G' (AS.put ⟨s.T, M'⟩ o.dst v) a' w' → K a' w') :
 if Region.wanted o (yielded ops a.tmps) = true then o.wp P a w K Q else K (a.put o.dst undef) w := by
 rcases hy with hy | ⟨e, blk, ⟨hw, _, _, hf, hc⟩, rfl⟩
 ·exact YA.sound hT hE h hd hy hK
 ·rw [if_pos (q96 h hw)]
  exact CallsN.wp h hf (fun v' w' G' hA hR hV => hK _ _ G' hA (hR.put hd hV)) hc
theorem YN.inh {ops : Array Oper} (hT : q45 P TE) (hE : ∀ t, EQ t = true → EqOk P t) {n : Nat} {s : AS} (h : Inh n s) {o : Oper} {v : AVal} {M' : Mem}
 (hd : ∀ t, o.dst = some t → t < n) (hy : YN P TE EQ RK ops s o v M') : Inh n (AS.put ⟨s.T, M'⟩ o.dst v) := by
 obtain ⟨B, G, a, w, h⟩ := h
 have := YN.sound (Q := fun _ _ _ => False) (K := fun a' w' => ∃ G', Rel n B G' (AS.put ⟨s.T, M'⟩ o.dst v) a' w') hT hE h hd hy (fun a' w' G' _ hR => ⟨G', hR⟩)
 split at this
 ·obtain ⟨a', w', G', hR⟩ := qi5 this
  exact ⟨B, G', a', w', hR⟩
 ·obtain ⟨G', hR⟩ := this
  exact ⟨B, G', _, _, hR⟩
end
end
section
section
variable {P : Program} {TE : TyE} {EQ : TypeId → Bool} {RK : Option (List Nat × (Nat → Bool))} {ops : Array Oper}
def opK (P : Program) (TE : TyE) (EQ : TypeId → Bool) (RK : Option (List Nat × (Nat → Bool))) (ops : Array Oper) (i : Nat) (K : AS → Prop) (s : AS) : Prop :=
 match ops[i]? with
 | none => K s
 | some o => ∃ v M', YN P TE EQ RK ops s o v M' ∧ K (AS.put ⟨s.T, M'⟩ o.dst v)
def anyA (P : Program) (TE : TyE) (EQ : TypeId → Bool) (RK : Option (List Nat × (Nat → Bool))) (ops : Array Oper) (Q : AS → Prop) : Nat → Array Bool → AS → Prop
 | 0, listed, s => Region.ready .any ops listed = [] ∧ Q s
 | fuel + 1, listed, s =>
  (Region.ready .any ops listed = [] → Q s) ∧
  ∀ i ∈ Region.ready .any ops listed, opK P TE EQ RK ops i (anyA P TE EQ RK ops Q fuel (listed.setIfInBounds i true)) s
def z9q (n : Nat) (ops : Array Oper) : Prop := ∀ (i : Nat) (o : Oper), ops[i]? = some o → ∀ t, o.dst = some t → t < n
def aft (ops : Array Oper) (i : Nat) : Nat → Nat → Bool
 | 0, _ => false
 | n + 1, j => match ops[j]? with
  | some o => o.after.any fun e => Region.binds .any e && (e.on == i || aft ops i n e.on)
  | none => false
def qe5 (ops : Array Oper) (listed : Array Bool) : Prop :=
 ∀ (j : Nat) (o : Oper), ops[j]? = some o → listed.getD j false = true → ∀ e ∈ o.after, Region.binds .any e = true → listed.getD e.on false = true
theorem qfw {listed : Array Bool} (hc : qe5 ops listed) {i : Nat} : ∀ (n j : Nat) (o : Oper), ops[j]? = some o → (∀ e ∈ o.after, Region.binds .any e = true → listed.getD e.on false = true) → aft ops i n j = true → listed.getD i false = true
 | 0, j, o, _, _, h => by simp [aft] at h
 | n + 1, j, o, ho, ha, h => by
  simp only [aft, ho] at h
  obtain ⟨e, he, hb⟩ := Array.any_eq_true'.1 h
  simp only [Bool.and_eq_true, Bool.or_eq_true, beq_iff_eq] at hb
  have hl := ha e he hb.1
  rcases hb.2 with h1 | h1
  ·rw [← h1]; exact hl
  ·cases hq : ops[e.on]? with
   | none => cases n <;> simp [aft, hq] at h1
   | some q => exact qfw hc n e.on q hq (hc e.on q hq hl) h1
theorem qe4 {listed : Array Bool} (hc : qe5 ops listed) {j : Nat} {o : Oper} (ho : ops[j]? = some o) (ha : ∀ e ∈ o.after, Region.binds .any e = true → listed.getD e.on false = true) : qe5 ops (listed.setIfInBounds j true) := by
 intro k q hq hk e he hb
 by_cases hkj : j = k
 ·subst hkj
  rw [ho] at hq
  cases hq
  exact getD_set_true (ha e he hb)
 ·rw [getD_set_ne false hkj] at hk
  exact getD_set_true (hc k q hq hk e he hb)
theorem za4 (hT : q45 P TE) (hE : ∀ t, EQ t = true → EqOk P t) {n : Nat} (hn : z9q n ops) {Q : AS → Prop} {i : Nat} {oi : Oper} {v : AVal} (hi : ops[i]? = some oi) :
 ∀ (fuel : Nat) (listed : Array Bool) (T : q1x) (M M' : Mem),
  (∀ j oj, ops[j]? = some oj → j ≠ i → listed.getD j true = false → aft ops i 2 j = false → qg4 (RK.map (·.1)) ops oi oj = true) → qe5 ops listed →
  i ∈ Region.ready .any ops listed → Inh n ⟨T, M⟩ → YN P TE EQ RK ops ⟨T, M⟩ oi v M' →
  anyA P TE EQ RK ops Q fuel (listed.setIfInBounds i true) (AS.put ⟨T, M'⟩ oi.dst v) → anyA P TE EQ RK ops Q (fuel + 1) listed ⟨T, M⟩ := by
 intro fuel
 induction fuel with
 | zero =>
  intro listed T M M' _ hcl hr hI hy H
  refine ⟨fun h => (by rw [h] at hr; cases hr), fun j hj => ?_⟩
  by_cases hji : j = i
  ·subst hji; unfold opK; simp only [hi]; exact ⟨v, M', hy, H⟩
  ·have := ready_mono hj hji
   rw [H.1] at this
   cases this
 | succ fuel ih =>
  intro listed T M M' hfree hcl hr hI hy H
  refine ⟨fun h => (by rw [h] at hr; cases hr), fun j hj => ?_⟩
  by_cases hji : j = i
  ·subst hji; unfold opK; simp only [hi]; exact ⟨v, M', hy, H⟩
  ·have h1 := H.2 j (ready_mono hj hji)
   obtain ⟨hjun, oj, hoj, hall⟩ := mem_ready.1 hj
   have hnot : aft ops i 2 j = false := by
    cases hq : aft ops i 2 j with
    | false => rfl
    | true =>
     have h1 := qfw hcl 2 j oj hoj hall hq
     have h0 := (mem_ready.1 hr).1
     rcases Nat.lt_or_ge i listed.size with h' | h'
     ·simp [h'] at h0 h1; rw [h0] at h1; cases h1
     ·simp [Array.getElem?_eq_none h'] at h1
   have hsw := hfree j oj hoj hji hjun hnot
   unfold opK at h1 ⊢
   simp only [hoj] at h1 ⊢
   obtain ⟨vj, Mij, hyj, hK⟩ := h1
   obtain ⟨Mj, s1, s2⟩ := YN.swap hsw hI hy hyj
   refine ⟨vj, Mj, s1, ?_⟩
   have hI' := YN.inh hT hE hI (hn j oj hoj) s1
   have hfree' : ∀ k ok, ops[k]? = some ok → k ≠ i → (listed.setIfInBounds j true).getD k true = false →
    aft ops i 2 k = false → qg4 (RK.map (·.1)) ops oi ok = true := fun k ok hk hki hun hno => by
    refine hfree k ok hk hki ?_ hno
    by_cases hjk : j = k
    ·subst hjk; exact hjun
    ·rw [getD_set_ne true hjk] at hun; exact hun
   have hap : ∀ x, oi.dst = some x → oj.dst ≠ some x := by
    simp only [qg4, Bool.and_eq_true] at hsw
    exact (Oper.apart_spec hsw.1).2.1
   rw [AS.put_eq T Mj NoM] at hI' s2 ⊢
   refine ih (listed.setIfInBounds j true) _ _ Mij hfree' (qe4 hcl hoj hall) (ready_mono hr (Ne.symm hji)) hI' s2 ?_
   rw [Array.setIfInBounds_comm _ _ hji]
   rw [AS.put_eq T M' NoM] at hK
   rw [AS.put_comm T Mij NoM NoM v vj hap] at hK
   exact hK
def lexA (P : Program) (TE : TyE) (EQ : TypeId → Bool) (RK : Option (List Nat × (Nat → Bool))) (ops : Array Oper) (Q : AS → Prop) : List Oper → AS → Prop
 | [], s => Q s
 | o :: rest, s => ∃ v M', YN P TE EQ RK ops s o v M' ∧ lexA P TE EQ RK ops Q rest (AS.put ⟨s.T, M'⟩ o.dst v)
def freeA (rw : Option (List Nat)) (ops : Array Oper) (listed : Array Bool) (i : Nat) : Bool :=
 match ops[i]? with
 | none => false
 | some oi => (List.range ops.size).all fun j => j == i || listed.getD j true || match ops[j]? with
  | some oj => aft ops i 2 j || qg4 rw ops oi oj
  | none => true
theorem z9b {i : Nat} {oi : Oper} {listed : Array Bool} (hi : ops[i]? = some oi) (h : freeA (RK.map (·.1)) ops listed i = true) (j : Nat) (oj : Oper)
 (hj : ops[j]? = some oj) (hne : j ≠ i) (hun : listed.getD j true = false) (hno : aft ops i 2 j = false) :
 qg4 (RK.map (·.1)) ops oi oj = true := by
 simp only [freeA, hi, List.all_eq_true, List.mem_range] at h
 have h1 := h j (Array.getElem?_eq_some_iff.1 hj).1
 simpa only [hj, Bool.or_eq_true, beq_iff_eq, hne, false_or, hun, Bool.false_eq_true, hno] using h1
def q9l (rw : Option (List Nat)) (ops : Array Oper) : Nat → Nat → Array Bool → Bool
 | 0, _, listed => (Region.ready .any ops listed).isEmpty
 | fuel + 1, k, listed => (Region.ready .any ops listed).contains k && freeA rw ops listed k && q9l rw ops fuel (k + 1) (listed.setIfInBounds k true)
def lexBA (rw : Option (List Nat)) (ops : Array Oper) : Bool := q9l rw ops ops.size 0 (Array.replicate ops.size false)
theorem z85 (hT : q45 P TE) (hE : ∀ t, EQ t = true → EqOk P t) {n : Nat} (hn : z9q n ops) {Q : AS → Prop} : ∀ (l : List Oper) (k : Nat) (listed : Array Bool) (s : AS), (∀ j, l[j]? = ops[k + j]?) →
 q9l (RK.map (·.1)) ops l.length k listed = true → qe5 ops listed → Inh n s → lexA P TE EQ RK ops Q l s → anyA P TE EQ RK ops Q l.length listed s
 | [], _, _, _, _, hB, _, _, h => ⟨by simpa [q9l] using hB, h⟩
 | o :: l, k, listed, s, hl, hB, hcl, hI, h => by
  have h0 : ops[k]? = some o := by simpa using (hl 0).symm
  simp only [List.length_cons, q9l, Bool.and_eq_true] at hB
  obtain ⟨⟨hr, hf⟩, hB'⟩ := hB
  obtain ⟨v, M', hy, hK⟩ := h
  exact za4 hT hE hn h0 l.length listed s.T s.M M' (z9b h0 hf) hcl (by simpa using hr) hI hy
   (z85 hT hE hn l (k + 1) _ _ (fun j => by have := hl (j + 1); simpa [Nat.add_assoc, Nat.add_comm 1 j] using this) hB' (qe4 hcl h0 (by
    have hm : k ∈ Region.ready .any ops listed := by simpa using hr
    obtain ⟨_, o', ho', ha⟩ := mem_ready.1 hm
    rw [h0] at ho'
    cases ho'
    exact ha)) (YN.inh hT hE hI (hn k o h0) hy) hK)
theorem q6s (hT : q45 P TE) (hE : ∀ t, EQ t = true → EqOk P t) {n : Nat} (hn : z9q n ops) {Q : AS → Prop} {Q' : Exit → Act → World → Prop} {B : Nat → Prop} {G0 : Gh} {w0 : World}
 (hQ : ∀ s a w G, Adv G0 w0 G w → Rel n B G s a w → Q s → Q' .normal a w) : ∀ (fuel : Nat) (listed : Array Bool) (s : AS) (a : Act) (w : World) (G : Gh), Adv G0 w0 G w → Rel n B G s a w →
 anyA P TE EQ RK ops Q fuel listed s → wpAny P .any ops Q' fuel listed a w
 | 0, _, s, a, w, G, hA, hR, h => ⟨h.1, hQ s a w G hA hR h.2⟩
 | fuel + 1, listed, s, a, w, G, hA, hR, h => by
  refine ⟨fun h0 => hQ s a w G hA hR (h.1 h0), fun i hi => ?_⟩
  have h1 := h.2 i hi
  unfold opK at h1
  unfold wpOp
  cases ho : ops[i]? with
  | none => simp only [ho] at h1 ⊢; exact q6s hT hE hn hQ fuel _ s a w G hA hR h1
  | some o =>
   simp only [ho] at h1 ⊢
   obtain ⟨v, M', hy, hK⟩ := h1
   have := YN.sound (Q := Q') (K := wpAny P .any ops Q' fuel (listed.setIfInBounds i true)) hT hE hR (hn i o ho) hy (fun a' w' G' hA' hR' => q6s hT hE hn hQ fuel _ _ a' w' G' (hA.trans hA') hR' hK)
   split at this
   ·rename_i hw; rw [if_pos hw]; exact .inl this
   ·rename_i hw; rw [if_neg hw]; exact this
theorem q8l (hm : P.follows .mixedOrders = true) (hT : q45 P TE) (hE : ∀ t, EQ t = true → EqOk P t) {n : Nat} (hn : z9q n ops) (hB : lexBA (RK.map (·.1)) ops = true) {Q : AS → Prop} {Q' : Exit → Act → World → Prop} {B : Nat → Prop} {G : Gh}
 {s : AS} {a : Act} {w : World} {id : Nat} (hR : Rel n B G s a w) (hQ : ∀ s a' w' G', Adv G w G' w' → Rel n B G' s a' w' → Q s → Q' .normal a' w') (h : lexA P TE EQ RK ops Q ops.toList s) :
 (Code.region id ops true).wp P Q' a w := by
 refine wp_region_any hm ?_
 have h1 := z85 hT hE hn ops.toList 0 (Array.replicate ops.size false) s (by simp) (by simpa [lexBA] using hB) (fun j o _ hj => by
  simp only [Array.getD_eq_getD_getElem?, Array.getElem?_replicate] at hj
  split at hj <;> simp at hj) ⟨B, G, a, w, hR⟩ h
 have := q6s (Q' := Q') hT hE hn (B := B) (G0 := G) (w0 := w) (fun s a' w' G' hA hR' hq => hQ s a' w' G' hA hR' hq) _ _ s a { w with drawn := w.drawn + 1 } G (Adv.drawn G w _) (hR.drawn _) h1
 simpa using this
end
end
section
structure Env where
 P : Program
 TE : TyE
 EQ : TypeId → Bool
 hm : P.follows .mixedOrders = true
 hT : q45 P TE
 hE : ∀ t, EQ t = true → EqOk P t
structure SOp where
 dst : Option Tmp
 op : Op
 g : Option (Option Tmp × Bool)
@[reducible] def zO (d : Nat) (p : Op) : SOp := ⟨some d, p, none⟩
@[reducible] def zM (d x : Nat) : SOp := ⟨some d, .move (.tmp x), none⟩
@[reducible] def zG (d x : Nat) : SOp := ⟨some d, .assign (.tmp x), none⟩
@[reducible] def zL (d t x : Nat) : SOp := ⟨some d, .load t (.tmp x), none⟩
@[reducible] def zF (d t x f : Nat) : SOp := ⟨some d, .fieldAddr t (.tmp x) f, none⟩
@[reducible] def zI (d t x y : Nat) : SOp := ⟨some d, .indexAddr t (.tmp x) (.tmp y), none⟩
@[reducible] def zX (d x i : Nat) : SOp := ⟨some d, .extract (.tmp x) i, none⟩
inductive SC where
 | skip
 | ops (draw : Bool) (l : List SOp)
 | opsW (ws : List Nat) (l : List SOp)
 | seq (x y : SC)
 | cond (c : Operand) (x y : SC)
 | block (id : Nat) (x : SC)
 | loop (x : SC)
 | exit (id : Nat)
 | ret
def qc8 (ops : Array Oper) (o : Oper) : SOp := ⟨o.dst, o.op, match o.guard with | none => none | some (j, b) => some ((ops[j]?).bind (·.dst), b)⟩
def dstB (n : Nat) (ops : Array Oper) : Bool := ops.toList.all fun o => match o.dst with | some t => decide (t < n) | none => true
theorem zkx {n : Nat} {ops : Array Oper} (h : dstB n ops = true) : z9q n ops := by
 intro i o ho t ht
 have := List.all_eq_true.1 h o (by rw [← Array.getElem?_toList] at ho; exact List.mem_of_getElem? ho)
 simpa [ht] using this
def qq2 (ops : Array Oper) : List Nat :=
 ops.toList.filterMap fun (p : Oper) => match p.op with
  | .call ⟨.builtin .append, args, _⟩ => match (args[0]? : Option Operand) with
   | some (.tmp t) => some t
   | _ => none
  | _ => none
def qjm (n : Nat) : Code → Option SC
 | .skip => some .skip
 | .region _ ops draw =>
  if dstB n ops && (!draw || lexBA none ops) then some (.ops draw (ops.toList.map (qc8 ops)))
  else if dstB n ops && lexBA (some (qq2 ops)) ops then some (.opsW (qq2 ops) (ops.toList.map (qc8 ops))) else none
 | .seq x y => match qjm n x, qjm n y with | some x, some y => some (.seq x y) | _, _ => none
 | .cond c x y => match qjm n x, qjm n y with | some x, some y => some (.cond c x y) | _, _ => none
 | .block id x => match qjm n x with | some x => some (.block id x) | none => none
 | .loop x => match qjm n x with | some x => some (.loop x) | none => none
 | .exit id => some (.exit id)
 | .ret => some .ret
 | _ => none
inductive Ex where
 | normal
 | exit (id : Nat)
 | ret
 | pan (v : AVal)
def Post (n : Nat) (B : Nat → Prop) (G : Gh) (w : World) (Q : Ex → AS → Prop) (Q' : Exit → Act → World → Prop) : Prop :=
 ∀ e s a' w' G', Adv G w G' w' → Rel n B G' s a' w' → Q e s →
  match e with
  | .normal => Q' .normal a' w'
  | .exit id => Q' (.exit id) a' w'
  | .ret => Q' .ret a' w'
  | .pan x => ∀ v', VR (Dm s.M) G' B w' x v' → Q' (.panic [{ v := v', recovered := false }]) a' w'
theorem Post.adv {n : Nat} {B : Nat → Prop} {G G1 : Gh} {w w1 : World} {Q : Ex → AS → Prop} {Q' : Exit → Act → World → Prop} (h : Post n B G w Q Q') (hA : Adv G w G1 w1) : Post n B G1 w1 Q Q' :=
 fun e s a' w' G' hA' hR hq => h e s a' w' G' (hA.trans hA') hR hq
def AW (E : Env) (n : Nat) (x : SC) (Q : Ex → AS → Prop) (s : AS) : Prop :=
 ∀ c, qjm n c = some x → ∀ B G a w, Rel n B G s a w → ∀ Q', Post n B G w Q Q' → c.wp E.P Q' a w
def Wk (n : Nat) (s s' : AS) : Prop := ∀ B G a w, Rel n B G s a w → ∃ G', Rel n B G' s' a w ∧ Adv G w G' w
theorem Wk.refl (n : Nat) (s : AS) : Wk n s s := fun B G a w h => ⟨G, h, .refl G w⟩
theorem Wk.trans {n : Nat} {s s1 s2 : AS} (h : Wk n s s1) (h' : Wk n s1 s2) : Wk n s s2 := fun B G a w hR =>
 let ⟨G1, h1, a1⟩ := h B G a w hR
 let ⟨G2, h2, a2⟩ := h' B G1 a w h1
 ⟨G2, h2, a1.trans a2⟩
section
variable {E : Env} {n : Nat} {Q : Ex → AS → Prop} {s : AS}
theorem AW.wk {x : SC} {s' : AS} (hw : Wk n s s') (h : AW E n x Q s') : AW E n x Q s := fun c hc B G a w hR Q' hP =>
 let ⟨G1, h1, a1⟩ := hw B G a w hR
 h c hc B G1 a w h1 Q' (hP.adv a1)
theorem AW.mono {x : SC} {Q1 : Ex → AS → Prop} (h : AW E n x Q1 s) (hq : ∀ e s, Q1 e s → Q e s) : AW E n x Q s := fun c hc B G a w hR Q' hP =>
 h c hc B G a w hR Q' fun e s a' w' G' hA hR hq1 => hP e s a' w' G' hA hR (hq e s hq1)
theorem AW.skip (h : Q .normal s) : AW E n .skip Q s := by
 intro c hc B G a w hR Q' hP
 cases c <;> simp only [qjm, reduceCtorEq] at hc
 case skip => exact wp_skip (hP _ _ _ _ _ (.refl G w) hR h)
 all_goals first | (simp at hc; done) | (split at hc <;> simp at hc; done) | skip
theorem AW.ret (h : Q .ret s) : AW E n .ret Q s := by
 intro c hc B G a w hR Q' hP
 cases c <;> simp only [qjm, reduceCtorEq] at hc
 case ret => exact wp_ret (hP _ _ _ _ _ (.refl G w) hR h)
 all_goals first | (simp at hc; done) | (split at hc <;> simp at hc; done) | skip
theorem AW.exit {id : Nat} (h : Q (.exit id) s) : AW E n (.exit id) Q s := by
 intro c hc B G a w hR Q' hP
 cases c <;> simp only [qjm, reduceCtorEq] at hc
 case exit id' =>
  simp only [Option.some.injEq, SC.exit.injEq] at hc
  subst hc
  exact wp_exit (hP _ _ _ _ _ (.refl G w) hR h)
 all_goals first | (simp at hc; done) | (split at hc <;> simp at hc; done) | skip
def Ex.then (next : AS → Prop) (Q : Ex → AS → Prop) : Ex → AS → Prop
 | .normal, s => next s
 | e, s => Q e s
theorem AW.seq {x y : SC} (h : AW E n x (Ex.then (AW E n y Q) Q) s) : AW E n (.seq x y) Q s := by
 intro c hc B G a w hR Q' hP
 cases c <;> simp only [qjm, reduceCtorEq] at hc
 case seq cx cy =>
  split at hc
  case h_2 => simp at hc
  rename_i x' y' hx hy
  simp only [Option.some.injEq, SC.seq.injEq] at hc
  obtain ⟨rfl, rfl⟩ := hc
  refine wp_seq (h cx hx B G a w hR _ fun e s1 a' w' G' hA hR' hq => ?_)
  cases e with
  | normal => exact hq cy hy B G' a' w' hR' Q' (hP.adv hA)
  | exit id => exact hP _ _ _ _ _ hA hR' hq
  | ret => exact hP _ _ _ _ _ hA hR' hq
  | pan v => exact hP _ _ _ _ _ hA hR' hq
 all_goals first | (simp at hc; done) | (split at hc <;> simp at hc; done) | skip
theorem AW.cond {o : Operand} {x y : SC} {b : Bool} (hb : ev s.T o = .bool b) (ht : b = true → AW E n x Q s) (hf : b = false → AW E n y Q s) : AW E n (.cond o x y) Q s := by
 intro c hc B G a w hR Q' hP
 cases c <;> simp only [qjm, reduceCtorEq] at hc
 case cond co cx cy =>
  split at hc
  case h_2 => simp at hc
  rename_i x' y' hx hy
  simp only [Option.some.injEq, SC.cond.injEq] at hc
  obtain ⟨rfl, rfl, rfl⟩ := hc
  have hv := hR.ev co
  rw [hb] at hv
  have hv' : a.eval co = .bool b := by generalize a.eval co = cv at hv; cases hv; rfl
  exact wp_cond_split hv' (fun h1 => ht h1 cx hx B G a w hR Q' hP) (fun h1 => hf h1 cy hy B G a w hR Q' hP)
 all_goals first | (simp at hc; done) | (split at hc <;> simp at hc; done) | skip
def Ex.inBlock (id : Nat) (Q : Ex → AS → Prop) : Ex → AS → Prop
 | .exit id', s => if id' = id then Q .normal s else Q (.exit id') s
 | e, s => Q e s
theorem AW.block {id : Nat} {x : SC} (h : AW E n x (Ex.inBlock id Q) s) : AW E n (.block id x) Q s := by
 intro c hc B G a w hR Q' hP
 cases c <;> simp only [qjm, reduceCtorEq] at hc
 case block id' cx =>
  split at hc
  case h_2 => simp at hc
  rename_i x' hx
  simp only [Option.some.injEq, SC.block.injEq] at hc
  obtain ⟨rfl, rfl⟩ := hc
  refine wp_block (h cx hx B G a w hR _ fun e s1 a' w' G' hA hR' hq => ?_)
  cases e with
  | normal => exact hP .normal _ _ _ _ hA hR' hq
  | exit id =>
   simp only [Ex.inBlock, Exit.inBlock] at hq ⊢
   split
   ·rename_i he; rw [if_pos he] at hq; exact hP .normal _ _ _ _ hA hR' hq
   ·rename_i he; rw [if_neg he] at hq; exact hP (.exit id) _ _ _ _ hA hR' hq
  | ret => exact hP .ret _ _ _ _ hA hR' hq
  | pan v => exact hP (.pan v) _ _ _ _ hA hR' hq
 all_goals first | (simp at hc; done) | (split at hc <;> simp at hc; done) | skip
theorem AW.loop {x : SC} (I : Nat → AS → Prop) {m0 : Nat} (h0 : I m0 s)
 (round : ∀ m s, I m s → AW E n x (Ex.then (fun s' => ∃ m' s'', m' < m ∧ Wk n s' s'' ∧ I m' s'') Q) s) : AW E n (.loop x) Q s := by
 intro c hc B G a w hR Q' hP
 cases c <;> simp only [qjm, reduceCtorEq] at hc
 case loop cx =>
  split at hc
  case h_2 => simp at hc
  rename_i x' hx
  simp only [Option.some.injEq, SC.loop.injEq] at hc
  subst hc
  let J : Nat → Act → World → Prop := fun m a' w' => ∃ s' G', Adv G w G' w' ∧ Rel n B G' s' a' w' ∧ I m s'
  intro b k cs
  have key : ∀ m a' w', J m a' w' → ∃ e a'' w'', Q' e a'' w'' ∧ Arrives E.P (lone (b.at a' (.code cx :: .inLoop cx :: k)) cs w') b k cs e a'' w'' := by
   intro m
   induction m using Nat.strongRecOn with
   | _ m ih =>
    intro a' w' ⟨s', G', hA, hR', hI⟩
    obtain ⟨e, a1, w1, hq, harr⟩ := round m s' hI cx hx B G' a' w' hR' (Exit.then (fun a1 w1 => ∃ m', m' < m ∧ J m' a1 w1) Q') (fun e s1 a1 w1 G1 hA1 hR1 hq => by
     cases e with
     | normal =>
      obtain ⟨m', s2, hlt, hwk, hI2⟩ := hq
      obtain ⟨G2, hR2, hA2⟩ := hwk B G1 a1 w1 hR1
      exact ⟨m', hlt, s2, G2, (hA.trans hA1).trans hA2, hR2, hI2⟩
     | exit id => exact hP (.exit id) _ _ _ _ (hA.trans hA1) hR1 hq
     | ret => exact hP .ret _ _ _ _ (hA.trans hA1) hR1 hq
     | pan v => exact hP (.pan v) _ _ _ _ (hA.trans hA1) hR1 hq) b (.inLoop cx :: k) cs
    cases e with
    | normal =>
     obtain ⟨m', hlt, hJ⟩ := hq
     obtain ⟨e2, a2, w2, hq2, harr2⟩ := ih m' hlt a1 w1 hJ
     exact ⟨e2, a2, w2, hq2, .of_steps (Steps.trans harr (.one step_inLoop)) harr2⟩
    | exit id => exact ⟨_, a1, w1, hq, .pass (x := .inLoop cx) rfl (fun _ _ => .inl (by simp)) harr⟩
    | goto l => exact ⟨_, a1, w1, hq, .pass (x := .inLoop cx) rfl (fun _ _ => .inl (by simp)) harr⟩
    | ret => exact ⟨_, a1, w1, hq, .pass (x := .inLoop cx) rfl (fun _ _ => .inl (by simp)) harr⟩
    | panic ch => exact ⟨_, a1, w1, hq, .pass (x := .inLoop cx) rfl (fun _ _ => .inl (by simp)) harr⟩
    | outgrown => exact ⟨_, a1, w1, hq, .pass (x := .inLoop cx) rfl (fun _ _ => .inl (by simp)) harr⟩
  obtain ⟨e, a', w', hq, harr⟩ := key m0 a w ⟨s, G, .refl G w, hR, h0⟩
  exact ⟨e, a', w', hq, .of_steps (.one step_loop) harr⟩
 all_goals first | (simp at hc; done) | (split at hc <;> simp at hc; done) | skip
end
end
section
def opS (TE : TyE) (EQ : TypeId → Bool) (s : AS) (dst : Option Tmp) (op : Op) : AR := opA TE EQ s ⟨dst, op, 0, "", #[], none⟩
theorem opS_eq (TE : TyE) (EQ : TypeId → Bool) (s : AS) (o : Oper) : opA TE EQ s o = opS TE EQ s o.dst o.op := by
 obtain ⟨dst, op, type, pos, after, guard⟩ := o
 rfl
def zak (o : SOp) (T : q1x) (yes no : Prop) : Prop :=
 match o.g with
 | none => yes
 | some (none, _) => no
 | some (some t, b) => match T t with
  | .bool c => (c = b → yes) ∧ (c = !b → no)
  | .tup _ => no
  | _ => False
def callP (P : Program) (draw : Bool) (RK : Option (List Nat × (Nat → Bool))) (s : AS) (x : Operand) (args : Array Operand) (Kv Kp : AVal → Mem → Prop) : Prop :=
 ∃ f caps Kf out, ev s.T x = .fn f caps ∧ q0j ((evs s.T args.toList ++ caps).map (fz Kf s.M)) = true ∧ Ev P f ((evs s.T args.toList ++ caps).map (fz Kf s.M)) out ∧
  match out with
  | .ret v => ((draw = true → v.flt = true ∨ Kf = fun _ => false) ∧ (RK.isSome = true → Kf = fun _ => false)) ∧ Kv v (if v.flt = true then s.M else kill Kf s.M)
  | .pan v => draw = false ∧ Kp v (if v.flt = true then s.M else kill Kf s.M)
def callO (P : Program) (draw : Bool) (s : AS) (x : Operand) (args : Array Operand) (Kv : AVal → Mem → Prop) : Prop :=
 draw = false ∧ ∃ f p k e sz xs args' back r ys, ev s.T x = .fn f [] ∧ (evs s.T args.toList)[p]? = some (.os k e) ∧ s.M k = some (.arr e sz xs) ∧ q0j xs = true ∧
  ((evs s.T args.toList).map (fz (fun _ => false) s.M)).set p .undef = args' ∧ q0j args' = true ∧ r.stb = true ∧ q0j ys = true ∧ EvOwn P f args' p sz xs back r ys ∧
  Kv (if back = true then .os k (e + 1) else r) (upd s.M k (some (.arr (qb9 back e) sz ys)))
def qrd (P : Program) (draw : Bool) (RK : Option (List Nat × (Nat → Bool))) (s : AS) (x : Operand) (args : Array Operand) (Kv Kp : AVal → Mem → Prop) : Prop :=
 callP P draw RK s x args Kv Kp ∨ callO P draw s x args Kv
def callK (K : AS → Prop) (T : q1x) (dst : Option Tmp) (v : AVal) (M' : Mem) : Prop := K (AS.put ⟨T, M'⟩ dst v)
def callQ (Q : Ex → AS → Prop) (T : q1x) (v : AVal) (M' : Mem) : Prop := Q (.pan v) ⟨T, M'⟩
def stepM (E : Env) (draw : Bool) (RK : Option (List Nat × (Nat → Bool))) (o : SOp) (s : AS) (Q : Ex → AS → Prop) (K : AS → Prop) : Prop :=
 match o.op with
 | .call ⟨.value x, args, _⟩ => qrd E.P draw RK s x args (callK K s.T o.dst) (callQ Q s.T)
 | .panic x => match ev s.T x with
  | .iface t v => draw = false ∧ Q (.pan (.iface t v)) s
  | _ => False
 | op => match opS E.TE E.EQ s o.dst op with
  | some (v, ups) => ((draw = true → qe3 (RK.map (·.1)) o.dst op = .r → ups = []) ∧ qhz RK o.dst op s.T = true) ∧ K (AS.put ⟨s.T, ap s.M ups⟩ o.dst v)
  | none => False
def Hook (P : Program) (s : AS) (op : Op) (posts : AVal → Mem → Prop) : Prop :=
 ∀ (n : Nat) (B : Nat → Prop) (G : Gh) (a : Act) (w : World), Rel n B G s a w → ∀ o : Oper, o.op = op → ∀ (K : Act → World → Prop) (Q : Exit → Act → World → Prop),
  (∀ v v' M' w' G', posts v M' → Adv G w G' w' → Rel n B G' ⟨s.T, M'⟩ a w' → VR (Dm M') G' B w' v v' → K (a.put o.dst v') w') → o.wp P a w K Q
def newS (E : Env) (RK : Option (List Nat × (Nat → Bool))) (o : SOp) (s : AS) (K : AS → Prop) : Prop :=
 RK = none ∧ ∃ x args ts f caps v blk d, o.op = .call ⟨.value x, args, ts⟩ ∧ ev s.T x = .fn f caps ∧ q0j ((evs s.T args.toList ++ caps).map (fz (fun _ => false) s.M)) = true ∧
  MakesB E.P f ((evs s.T args.toList ++ caps).map (fz (fun _ => false) s.M)) d v blk ∧ o.dst = some d ∧ s.M d = none ∧ K (AS.put ⟨s.T, upd s.M d (some blk)⟩ o.dst v)
def stepS (E : Env) (draw : Bool) (RK : Option (List Nat × (Nat → Bool))) (o : SOp) (s : AS) (Q : Ex → AS → Prop) (K : AS → Prop) : Prop :=
 stepM E draw RK o s Q K ∨ (draw = false ∧ ∃ posts, Hook E.P s o.op posts ∧ ∀ v M', posts v M' → K (AS.put ⟨s.T, M'⟩ o.dst v)) ∨ newS E RK o s K
def q0c (E : Env) (draw : Bool) (RK : Option (List Nat × (Nat → Bool))) (Q : Ex → AS → Prop) : List SOp → AS → Prop
 | [], s => Q .normal s
 | o :: r, s => zak o s.T (stepS E draw RK o s Q (q0c E draw RK Q r)) (q0c E draw RK Q r (AS.put s o.dst (.tup [])))
section
variable {E : Env} {n : Nat} {Q : Ex → AS → Prop} {s : AS}
theorem q7h (p : Prop) [Decidable p] (a b : Bool) : (if p then AVal.bool a else AVal.bool b) = AVal.bool (if p then a else b) := by split <;> rfl
theorem q9f (p : Prop) [Decidable p] (k : IntKind) (a b : Int) : (if p then AVal.int k a else AVal.int k b) = AVal.int k (if p then a else b) := by split <;> rfl
theorem qc5 {draw : Bool} {RK : Option (List Nat × (Nat → Bool))} {o : SOp} {K : AS → Prop} (h : stepS E draw RK o s Q K) :
 (∃ x args ts, o.op = .call ⟨.value x, args, ts⟩ ∧ qrd E.P draw RK s x args (callK K s.T o.dst) (callQ Q s.T)) ∨
 (∃ v ups, opS E.TE E.EQ s o.dst o.op = some (v, ups) ∧ ((draw = true → qe3 (RK.map (·.1)) o.dst o.op = .r → ups = []) ∧ qhz RK o.dst o.op s.T = true) ∧ K (AS.put ⟨s.T, ap s.M ups⟩ o.dst v)) ∨
 (∃ x t v, o.op = .panic x ∧ ev s.T x = .iface t v ∧ draw = false ∧ Q (.pan (.iface t v)) s) ∨
 (draw = false ∧ ∃ posts, Hook E.P s o.op posts ∧ ∀ v M', posts v M' → K (AS.put ⟨s.T, M'⟩ o.dst v)) ∨ newS E RK o s K := by
 rcases h with h | h | h
 case inr.inl => exact .inr (.inr (.inr (.inl h)))
 case inr.inr => exact .inr (.inr (.inr (.inr h)))
 unfold stepM at h
 split at h
 ·rename_i x args ts ho
  exact .inl ⟨x, args, ts, ho, h⟩
 ·rename_i x ho
  split at h
  ·rename_i t v hv
   exact .inr (.inr (.inl ⟨x, t, v, ho, hv, h.1, h.2⟩))
  ·exact h.elim
 ·split at h
  ·rename_i v ups hv
   exact .inr (.inl ⟨v, ups, hv, h.1, h.2⟩)
  ·exact h.elim
theorem qbv {ops : Array Oper} {o : Oper} {T : q1x} {yes no : Prop} (h : zak (qc8 ops o) T yes no) : (qbw ops o T = some true ∧ yes) ∨ (qbw ops o T = some false ∧ no) := by
 unfold zak at h
 unfold qbw
 cases hg : o.guard with
 | none => simp only [qc8, hg] at h ⊢; exact .inl ⟨by trivial, h⟩
 | some jb =>
  obtain ⟨j, b⟩ := jb
  simp only [qc8, hg] at h ⊢
  cases ht : (ops[j]?).bind (·.dst) with
  | none => simp only [ht] at h ⊢; exact .inr ⟨by trivial, h⟩
  | some t =>
   simp only [ht] at h ⊢
   cases hT : T t <;> simp only [hT] at h ⊢
   case bool c =>
    by_cases hc : c = b
    ·exact .inl ⟨by simp [hc], h.1 hc⟩
    ·exact .inr ⟨by simp [hc], h.2 (by cases c <;> cases b <;> simp_all)⟩
   case tup cs => exact .inr ⟨by trivial, h⟩
theorem q4x {RK : Option (List Nat × (Nat → Bool))} {ops : Array Oper} : ∀ (l : List Oper) (s : AS), q0c E true RK Q (l.map (qc8 ops)) s → lexA E.P E.TE E.EQ RK ops (Q .normal) l s
 | [], s, h => h
 | o :: l, s, h => by
  simp only [List.map_cons, q0c] at h
  rcases qbv h with ⟨hw, hy⟩ | ⟨hw, hno⟩
  ·rcases qc5 hy with ⟨x, args, ts, ho, ⟨f, caps, Kf, out, h1, h2, h3, h4⟩ | ⟨hdr, f, p, k, e, sz, xs, args', back, r, ys, h1, h2, h3, h4, h5, h6, h7, h8, h9, h10⟩⟩ | ⟨v, ups, h1, h2, h3⟩ | ⟨x, t, v, ho, hv, hd, hq⟩ | ⟨hd, posts, hk1, hk2⟩ | ⟨hrk, x, args, ts, f, caps, nv, blk, d, ho, h1, h2, h3, hds, hfr, h4⟩
   ·cases out with
    | pan v => exact absurd h4.1 (by simp)
    | ret v =>
     obtain ⟨h4, h5⟩ := h4
     obtain ⟨h4, h4'⟩ := h4
     have h4 := h4 rfl
     have hM : (if v.flt = true then s.M else kill Kf s.M) = s.M := by
      rcases h4 with hk | hk
      ·simp [hk]
      ·subst hk; simp [qdd]
     rw [hM] at h5
     exact ⟨v, s.M, .inl (.inl ⟨hw, .inr ⟨Kf, ⟨x, args, ts, f, caps, ho, h1, h2, h3⟩, rfl, h4, h4'⟩⟩), q4x l _ h5⟩
   ·cases hdr
   ·exact ⟨v, _, .inl (.inl ⟨hw, .inl ⟨ups, by rw [opS_eq]; exact h1, rfl, h2.1 rfl, h2.2⟩⟩), q4x l _ h3⟩
   ·cases hd
   ·cases hd
   ·exact ⟨nv, _, .inr ⟨d, _, ⟨hw, hrk, hds, hfr, x, args, ts, f, caps, ho, h1, h2, h3⟩, rfl⟩, q4x l _ h4⟩
  ·exact ⟨.tup [], s.M, .inl (.inr ⟨hw, rfl, rfl⟩), q4x l _ hno⟩
theorem q5j {ops : Array Oper} (hn : z9q n ops) {B : Nat → Prop} {Q' : Exit → Act → World → Prop} : ∀ (l : List Oper) (k : Nat) (s : AS) (G : Gh) (a : Act) (w : World), (∀ j, l[j]? = ops[k + j]?) → Rel n B G s a w → Post n B G w Q Q' →
 q0c E false none Q (l.map (qc8 ops)) s → wpOps E.P ops Q' (List.range' k l.length) a w
 | [], k, s, G, a, w, hl, hR, hP, h => by simp only [List.length_nil, List.range'_zero, wpOps]; exact hP .normal _ _ _ _ (.refl G w) hR h
 | o :: l, k, s, G, a, w, hl, hR, hP, h => by
  have h0 : ops[k]? = some o := by simpa using (hl 0).symm
  have hl' : ∀ j, l[j]? = ops[k + 1 + j]? := fun j => by have := hl (j + 1); simpa [Nat.add_assoc, Nat.add_comm 1 j] using this
  simp only [List.length_cons, List.range'_succ, wpOps, h0]
  simp only [List.map_cons, q0c] at h
  rcases qbv h with ⟨hw, hy⟩ | ⟨hw, hno⟩
  ·rw [if_pos (q96 hR hw)]
   refine .inl ?_
   rcases qc5 hy with ⟨x, args, ts, ho, ⟨f, caps, Kf, out, h1, h2, h3, h4⟩ | ⟨hdr, f, p, k, e, sz, xs, args', back, r, ys, h1, h2, h3, h4, h5, h6, h7, h8, h9, h10⟩⟩ | ⟨v, ups, h1, h2, h3⟩ | ⟨x, t, v, ho, hv, hd, hq⟩ | ⟨hd, posts, hk1, hk2⟩ | ⟨hrk, x, args, ts, f, caps, nv, blk, d, ho, h1, h2, h3, hds, hfr, h4⟩
   ·refine CallsA.wp (out := out) hR ?_ ⟨x, args, ts, f, caps, ho, h1, h2, h3⟩
    cases out with
    | pan v => exact fun v' w' G' hA hR' hV => hP (.pan v) _ _ _ _ hA hR' h4.2 v' hV
    | ret v => exact fun v' w' G' hA hR' hV => q5j hn l (k + 1) _ G' _ w' hl' (hR'.put (hn k o h0) hV) (hP.adv hA) h4.2
   ·have ho' : o.op = .call ⟨.value x, args, ts⟩ := ho
    obtain ⟨fn, hfn, hnm, hbd⟩ := h9.1.ok
    have hx := hR.ev x
    rw [h1] at hx
    generalize hxv : a.eval x = xv at hx
    cases hx with
    | fn _ _ vs hl0 hh =>
     have hvs : vs = #[] := Array.eq_empty_of_size_eq_zero (by simpa using hl0)
     subst hvs
     have hrun : (execOp a.eval o).run E.P w = .ok (.enter f (args.map a.eval)) w := by
      unfold execOp
      rw [ho']
      have e1 : (fn.name = "runtime.NumGoroutine") = False := by simpa using hnm
      have e2 : (fn.body = none) = False := by simp only [eq_iff_iff, iff_false]; intro hn; rw [hn] at hbd; simp at hbd
      simp [resolve, hxv, Deferred.ofValue, invoke, callFunc, hfn, e1, e2]
     unfold Oper.wp
     rw [hrun]
     simp only [Oper.upon]
     obtain ⟨q1, q2⟩ := qar hR args
     refine za0 hR q1 (fun i y u hy hu => ?_) h2 h3 h4 h5 h6 h7 h8 h9 (fun v' w' G' hA hR' hV => q5j hn l (_ + 1) _ G' _ w' hl' (hR'.put (hn _ o h0) hV) (hP.adv hA) h10)
     obtain ⟨u', hu', hr'⟩ := q2 i y hy
     rw [hu] at hu'
     exact (Option.some.inj hu') ▸ hr'
   ·obtain ⟨r, w', v', G', e1, e2, e3, e4, e5⟩ := opA_ok E.hT E.hE hR (o := o) (by rw [opS_eq]; exact h1)
    unfold Oper.wp
    rw [e1]
    have hgo : wpOps E.P ops Q' (List.range' (k + 1) l.length) (a.put o.dst v') w' := q5j hn l (k + 1) _ G' _ w' hl' (e4.put (hn k o h0) e5) (hP.adv e3) h3
    rcases e2 with rfl | ⟨rfl, rfl⟩ <;> exact hgo
   ·have hx := hR.ev x
    rw [hv] at hx
    generalize hxv : a.eval x = xv at hx
    cases hx with
    | iface _ _ u hu =>
     have hrun : (execOp a.eval o).run E.P w = .halt (.panic (.iface t u)) w := by
      have ho' : o.op = .panic x := ho
      unfold execOp
      rw [ho']
      simp [Instr.panic, hxv, goPanic]
     unfold Oper.wp
     rw [hrun]
     exact hP (.pan (.iface t v)) _ _ _ _ (.refl G w) hR hq _ (.iface t v u hu)
   ·exact hk1 n B G a w hR o rfl _ _ fun v v' M' w' G' hp hA hR' hV => q5j hn l (k + 1) _ G' _ w' hl' (hR'.put (hn k o h0) hV) (hP.adv hA) (hk2 v M' hp)
   ·exact CallsN.wp hR hfr (fun v' w' G' hA hR' hV => q5j hn l (k + 1) _ G' _ w' hl' (hR'.put (hn k o h0) hV) (hP.adv hA) h4) ⟨x, args, ts, f, caps, ho, h1, h2, h3⟩
  ·rw [if_neg (by rw [q96 hR hw]; simp)]
   refine q5j hn l (k + 1) _ G _ w hl' (hR.put (hn k o h0) ?_) hP hno
   exact .tup [] #[] rfl fun n x v hx => by simp at hx
theorem AW.ops {draw : Bool} {l : List SOp} (h : q0c E draw none Q l s) : AW E n (.ops draw l) Q s := by
 intro c hc B G a w hR Q' hP
 cases c <;> simp only [qjm, reduceCtorEq] at hc
 case region id ops d =>
  split at hc
  case isFalse => split at hc <;> simp at hc
  rename_i hb
  simp only [Bool.and_eq_true, Bool.or_eq_true, Bool.not_eq_true'] at hb
  simp only [Option.some.injEq, SC.ops.injEq] at hc
  obtain ⟨rfl, rfl⟩ := hc
  have hn := zkx hb.1
  cases d with
  | false =>
   refine wp_region ?_
   have := q5j hn ops.toList 0 s G a w (by simp) hR hP h
   rw [List.range_eq_range']
   simpa using this
  | true =>
   exact q8l (RK := none) E.hm E.hT E.hE hn (by simpa using hb.2) hR (fun s1 a' w' G' hA hR' hq => hP .normal _ _ _ _ hA hR' hq) (q4x ops.toList s h)
 all_goals first | (simp at hc; done) | (split at hc <;> simp at hc; done) | skip
theorem AW.opsW (K : Nat → Bool) {ws : List Nat} {l : List SOp} (h : q0c E true (some (ws, K)) Q l s) : AW E n (.opsW ws l) Q s := by
 intro c hc B G a w hR Q' hP
 cases c <;> simp only [qjm, reduceCtorEq] at hc
 case region id ops d =>
  split at hc
  case isTrue => simp at hc
  rename_i hno
  split at hc
  case isFalse => simp at hc
  rename_i hb
  simp only [Option.some.injEq, SC.opsW.injEq] at hc
  obtain ⟨rfl, rfl⟩ := hc
  simp only [Bool.and_eq_true] at hb
  have hn := zkx hb.1
  cases d with
  | false => simp [hb.1] at hno
  | true =>
   exact q8l (RK := some (qq2 ops, K)) E.hm E.hT E.hE hn hb.2 hR (fun s1 a' w' G' hA hR' hq => hP .normal _ _ _ _ hA hR' hq) (q4x ops.toList s h)
 all_goals first | (simp at hc; done) | (split at hc <;> simp at hc; done) | skip
theorem qea {draw : Bool} {RK : Option (List Nat × (Nat → Bool))} {x : Operand} {args : Array Operand} {Kv Kp : AVal → Mem → Prop} (Kf : Nat → Bool) {f : FuncId} {caps l : List AVal} {v : AVal} (hf : ev s.T x = .fn f caps)
 (hl : (evs s.T args.toList ++ caps).map (fz Kf s.M) = l) (hs : q0j l = true) (he : Ev E.P f l (.ret v)) (hd : (draw = true → v.flt = true ∨ Kf = fun _ => false) ∧ (RK.isSome = true → Kf = fun _ => false))
 (h : Kv v (if v.flt = true then s.M else kill Kf s.M)) : qrd E.P draw RK s x args Kv Kp :=
 .inl ⟨f, caps, Kf, .ret v, hf, by rw [hl]; exact hs, by rw [hl]; exact he, hd, h⟩
theorem z9z {x : Operand} {args : Array Operand} {Kv Kp : AVal → Mem → Prop} (p k : Nat) {f : FuncId} {e sz : Nat} {xs args' ys : List AVal} (hf : ev s.T x = .fn f []) (hp : (evs s.T args.toList)[p]? = some (.os k e))
 (hk : s.M k = some (.arr e sz xs)) (ha : ((evs s.T args.toList).map (fz (fun _ => false) s.M)).set p .undef = args') (hst : q0j args' = true) (hxs : q0j xs = true) (hys : q0j ys = true)
 (he : EvOwn E.P f args' p sz xs true .undef ys) (h : Kv (.os k (e + 1)) (upd s.M k (some (.arr (e + 1) sz ys)))) : qrd E.P false none s x args Kv Kp :=
 .inr ⟨rfl, f, p, k, e, sz, xs, args', true, .undef, ys, hf, hp, hk, hxs, ha, hst, rfl, hys, he, h⟩
theorem qht {x : Operand} {args : Array Operand} {Kv Kp : AVal → Mem → Prop} (p k : Nat) {f : FuncId} {e sz : Nat} {xs args' ys : List AVal} {r : AVal} (hf : ev s.T x = .fn f []) (hp : (evs s.T args.toList)[p]? = some (.os k e))
 (hk : s.M k = some (.arr e sz xs)) (ha : ((evs s.T args.toList).map (fz (fun _ => false) s.M)).set p .undef = args') (hst : q0j args' = true) (hxs : q0j xs = true) (hys : q0j ys = true) (hr : r.stb = true)
 (he : EvOwn E.P f args' p sz xs false r ys) (h : Kv r (upd s.M k (some (.arr e sz ys)))) : qrd E.P false none s x args Kv Kp :=
 .inr ⟨rfl, f, p, k, e, sz, xs, args', false, r, ys, hf, hp, hk, hxs, ha, hst, hr, hys, he, h⟩
theorem z9y {draw : Bool} {RK : Option (List Nat × (Nat → Bool))} {x : Operand} {args : Array Operand} {Kv Kp : AVal → Mem → Prop} {f : FuncId} {caps l : List AVal} {v : AVal} (hf : ev s.T x = .fn f caps)
 (hl : (evs s.T args.toList ++ caps).map (fz (fun _ => false) s.M) = l) (hs : q0j l = true) (he : Ev E.P f l (.ret v))
 (h : Kv v s.M) : qrd E.P draw RK s x args Kv Kp :=
 qea (fun _ => false) hf hl hs he ⟨fun _ => .inr rfl, fun _ => rfl⟩ (by rw [qdd]; split <;> exact h)
end
end
section
def q5q : Nat → Bool := fun _ => true
theorem q4y (G : Gh) (b : Nat) : (G.without q5q).ow b = none := by
 simp only [Gh.without, q5q]
 cases G.ow b <;> simp
def q8k (TE : TyE) (s : AS) : ResultVar → Option AVal
 | .tmp t => some (fz q5q s.M (s.T t))
 | .cell a t =>
  match TE t, s.T a with
  | some i, .ptr k off =>
   match s.M k with
   | some (.cells cs) =>
    if i.td.isAgg = true then (if off + i.size ≤ cs.length then some (.agg (((cs.drop off).take i.size).map (fzc q5q s.M))) else none)
    else (match cs[off]? with | some x => some (fzc q5q s.M x) | none => none)
   | _ => none
  | _, _ => none
def q54 (TE : TyE) (s : AS) : List ResultVar → Option (List AVal)
 | [] => some []
 | r :: rs => match q8k TE s r, q54 TE s rs with | some x, some xs => some (x :: xs) | _, _ => none
def z8m : List AVal → AVal
 | [x] => x
 | xs => .tup xs
def sub1 (x y : AVal) : Prop := x = y ∨ (x = .nil ∧ ∃ sz, y = .sl sz [])
def qsf : List AVal → List AVal → Prop
 | [], [] => True
 | x :: l, y :: m => sub1 x y ∧ qsf l m
 | _, _ => False
theorem q38 : ∀ l : List AVal, qsf l l
 | [] => trivial
 | x :: l => ⟨.inl rfl, q38 l⟩
theorem qg6 : ∀ {l m : List AVal}, qsf l m → l.length = m.length
 | [], [], _ => rfl
 | x :: l, y :: m, h => by simp [qg6 h.2]
 | [], _ :: _, h => h.elim
 | _ :: _, [], h => h.elim
theorem qg7 : ∀ {l m : List AVal}, qsf l m → ∀ {i : Nat} {y : AVal}, m[i]? = some y → ∃ x, l[i]? = some x ∧ sub1 x y
 | x :: l, y :: m, h, 0, z, hz => by simp at hz; subst hz; exact ⟨x, rfl, h.1⟩
 | x :: l, y :: m, h, i + 1, z, hz => by simpa using qg7 h.2 (by simpa using hz)
 | [], [], _, i, z, hz => by simp at hz
 | [], _ :: _, h, _, _, _ => h.elim
 | _ :: _, [], h, _, _, _ => h.elim
theorem sub1_stb {x y : AVal} (h : sub1 x y) (hs : x.stb = true) : y.stb = true := by
 rcases h with rfl | ⟨rfl, sz, rfl⟩
 ·exact hs
 ·rfl
theorem qse : ∀ {l m : List AVal}, qsf l m → q0j l = true → q0j m = true
 | [], [], _, h => h
 | x :: l, y :: m, h, hs => by
  simp only [q0j, Bool.and_eq_true] at hs ⊢
  exact ⟨sub1_stb h.1 hs.1, qse h.2 hs.2⟩
 | [], _ :: _, h, _ => h.elim
 | _ :: _, [], h, _ => h.elim
theorem sub1_VR {D : Nat → Nat → Prop} {G : Gh} {B : Nat → Prop} {w : World} {x y : AVal} {v : Value} (h : sub1 x y) (hv : VR D G B w x v) : VR D G B w y v := by
 rcases h with rfl | ⟨rfl, sz, rfl⟩
 ·exact hv
 ·cases hv; exact .slnil sz
def FnQ (TE : TyE) (rs : List ResultVar) (out : Out) : Ex → AS → Prop
 | .normal, s => ∃ xs, q54 TE s rs = some xs ∧ q0j xs = true ∧ ∃ ys, qsf xs ys ∧ out = .ret (z8m ys)
 | .ret, s => ∃ xs, q54 TE s rs = some xs ∧ q0j xs = true ∧ ∃ ys, qsf xs ys ∧ out = .ret (z8m ys)
 | .pan x, s => (fz q5q s.M x).stb = true ∧ out = .pan (fz q5q s.M x)
 | .exit _, _ => False
section
variable {P : Program} {TE : TyE}
theorem zbd (hT : q45 P TE) {n : Nat} {B : Nat → Prop} {G : Gh} {s : AS} {a : Act} {w : World} (h : Rel n B G s a w) {r : ResultVar} {x : AVal} (hr : q8k TE s r = some x) :
 ∃ v, (match r with | .tmp t => pure (a.tmps.getD t undef) | .cell c t => do loadVar t (← asAddr (a.tmps.getD c undef)) : Sem Value).run P w = .ok v w ∧ VR (Dm s.M) (G.without q5q) B w x v := by
 cases r with
 | tmp t =>
  simp only [q8k, Option.some.injEq] at hr
  subst hr
  exact ⟨a.tmps.getD t undef, rfl, qqt h.mem (h.temps t)⟩
 | cell c t =>
  simp only [q8k] at hr
  have hx := h.temps c
  cases hi : TE t with
  | none => simp [hi] at hr
  | some i =>
   cases hc : s.T c <;> simp only [hi, hc, reduceCtorEq] at hr
   rename_i k off
   rw [hc] at hx
   dsimp only
   generalize a.tmps.getD c undef = av at hx ⊢
   cases hx with
   | ptr _ _ hD =>
    cases hm : s.M k with
    | none => simp [hm] at hr
    | some blk =>
     cases blk <;> simp only [hm, reduceCtorEq] at hr
     rename_i cs
     obtain ⟨cc, el, b1, b2, b3, b4, b5⟩ := h.mem k _ hm
     cases ha : i.td.isAgg
     ·simp only [ha, Bool.false_eq_true, if_false] at hr
      cases hy : cs[off]? with
      | none => simp [hy] at hr
      | some y =>
       simp only [hy, Option.some.injEq] at hr
       subst hr
       obtain ⟨u, hu, hru⟩ := b5 off y hy
       have := q3k hT hi (G.β k) off (fun _ => u) w (fun j hj => by
        have : j = 0 := by simpa [ha] using hj
        subst this
        rw [q36 b3]
        simpa using hu)
       simp only [ha, Bool.false_eq_true, if_false] at this
       exact ⟨u, by simp [asAddr, this], qh8 h.mem rfl hru⟩
     ·simp only [ha, if_true] at hr
      split at hr
      case isFalse => simp at hr
      rename_i hle
      simp only [Option.some.injEq] at hr
      subst hr
      have hrun := q3k hT hi (G.β k) off (fun j => cc.getD (off + j) undef) w (fun j hj => by
       simp only [ha, if_true] at hj
       have hlt : off + j < cs.length := by omega
       obtain ⟨u, hu, hr⟩ := b5 (off + j) cs[off + j] (List.getElem?_eq_getElem hlt)
       rw [q36 b3, hu]
       simp [hu])
      simp only [ha, if_true] at hrun
      refine ⟨.agg ((List.range i.size).map fun j => cc.getD (off + j) undef).toArray, by simp [asAddr, hrun], .agg _ _ (by simp; omega) fun m x v hx hv => ?_⟩
      have hmn : m < i.size := by
       rcases Nat.lt_or_ge m i.size with h' | h'
       ·exact h'
       ·rw [List.getElem?_eq_none (by simp; omega)] at hx; cases hx
      simp only [List.getElem?_map, List.getElem?_take, hmn, if_true, List.getElem?_drop] at hx
      cases hq : cs[off + m]? with
      | none => simp [hq] at hx
      | some y =>
       simp only [hq, Option.map_some, Option.some.injEq] at hx
       subst hx
       obtain ⟨u, hu, hru⟩ := b5 _ _ hq
       have : v = u := by
        have e : ((List.range i.size).map fun j => cc.getD (off + j) undef)[m]? = some u := by simp [hmn, hu]
        rw [List.getElem?_toArray, e] at hv
        exact (Option.some.inj hv).symm
       rw [this]
       exact qh8 h.mem rfl hru
theorem qjs (hT : q45 P TE) {n : Nat} {B : Nat → Prop} {G : Gh} {s : AS} {a : Act} {w : World} (h : Rel n B G s a w) : ∀ {rs : List ResultVar} {xs : List AVal}, q54 TE s rs = some xs →
 ∃ vs : List Value, (rs.mapM (fun r => match r with | .tmp t => pure (a.tmps.getD t undef) | .cell c t => do loadVar t (← asAddr (a.tmps.getD c undef)) : ResultVar → Sem Value)).run P w = .ok vs w ∧ vs.length = xs.length ∧
  ∀ (i : Nat) (x : AVal) (v : Value), xs[i]? = some x → vs[i]? = some v → VR (Dm s.M) (G.without q5q) B w x v
 | [], xs, hr => by
  simp only [q54, Option.some.injEq] at hr
  subst hr
  exact ⟨[], by simp, rfl, fun i x v hx => by simp at hx⟩
 | r :: rs, xs, hr => by
  simp only [q54] at hr
  cases h1 : q8k TE s r with
  | none => simp [h1] at hr
  | some x =>
   cases h2 : q54 TE s rs with
   | none => simp [h1, h2] at hr
   | some ys =>
    simp only [h1, h2, Option.some.injEq] at hr
    subst hr
    obtain ⟨v, e1, e2⟩ := zbd hT h h1
    obtain ⟨vs, f1, f2, f3⟩ := qjs hT h h2
    refine ⟨v :: vs, ?_, by simp [f2], fun i y u hy hu => ?_⟩
    ·rw [List.mapM_cons]
     simp only [Sem.run_bind, e1, Result.andThen, f1, Sem.run_pure]
    ·cases i with
     | zero =>
      simp only [List.getElem?_cons_zero, Option.some.injEq] at hy hu
      subst hy; subst hu
      exact e2
     | succ i => exact f3 i y u (by simpa using hy) (by simpa using hu)
theorem z8j (hT : q45 P TE) {n : Nat} {B : Nat → Prop} {G : Gh} {s : AS} {a : Act} {w : World} (h : Rel n B G s a w) {fn : Func} {xs ys : List AVal} (hr : q54 TE s fn.results.toList = some xs) (hsub : qsf xs ys) :
 ∃ v, (results fn a.tmps).run P w = .ok v w ∧ VR (Dm s.M) (G.without q5q) B w (z8m ys) v := by
 obtain ⟨vs, e1, e2, e3⟩ := qjs hT h hr
 have e3' : ∀ (i : Nat) (y : AVal) (v : Value), ys[i]? = some y → vs[i]? = some v → VR (Dm s.M) (G.without q5q) B w y v := fun i y v hy hv => by
  obtain ⟨x, hx, hs⟩ := qg7 hsub hy
  exact sub1_VR hs (e3 i x v hx hv)
 rw [qg6 hsub] at e2
 replace e3 := e3'
 have hm : (fn.results.mapM (fun r => match r with | .tmp t => pure (a.tmps.getD t undef) | .cell c t => do loadVar t (← asAddr (a.tmps.getD c undef)) : ResultVar → Sem Value)).run P w = .ok vs.toArray w := by
  rw [Array.mapM_eq_mapM_toList]
  simp only [Sem.run_map, e1, Result.andThen]
 refine ⟨if h : vs.toArray.size = 1 then vs.toArray[0] else .tuple vs.toArray, ?_, ?_⟩
 ·unfold results
  simp only [Sem.run_bind]
  refine Eq.trans (congrArg (fun r => Result.andThen r _) hm) ?_
  simp [Result.andThen]
 ·clear e3' hr hsub e1 hm
  match ys, vs, e2 with
  | [], [], _ => exact .tup [] _ rfl fun n x v hx => by simp at hx
  | [x], [v], _ => exact e3 0 x v rfl rfl
  | x :: y :: l, v :: u :: l', e2 =>
   simp only [List.size_toArray, List.length_cons, Nat.reduceEqDiff, Nat.add_eq_zero_iff, Nat.succ_ne_self, and_false, dite_false, z8m]
   exact .tup _ _ (by simp; simpa using e2) fun n x v hx hv => e3 n x v hx (by simpa using hv)
end
def q8g (args : List AVal) : q1x := fun t => (args[t]?).getD .undef
def FnIs (P : Program) (f : FuncId) (n : Nat) (rs : List ResultVar) (sc : SC) : Prop :=
 ∃ fn c, P.funcs[f]? = some fn ∧ (fn.name == "runtime.NumGoroutine") = false ∧ fn.body = some c ∧ fn.ntmps = n ∧ fn.results.toList = rs ∧ qjm n c = some sc
theorem Ev.of_body {E : Env} {f : FuncId} {n : Nat} {rs : List ResultVar} {sc : SC} (hf : FnIs E.P f n rs sc) {args : List AVal} {out : Out} (hl : args.length ≤ n)
 (h : AW E n sc (FnQ E.TE rs out) ⟨q8g args, NoM⟩) : Ev E.P f args out := by
 obtain ⟨fn, c, h1, h2, h3, rfl, rfl, h6⟩ := hf
 refine ⟨⟨fn, h1, h2, by simp [h3]⟩, fun B w vs G hG hsz hv hB => ?_⟩
 refine calls_of_wp h1 h3 ?_
 have hR : Rel fn.ntmps B G ⟨q8g args, NoM⟩ { tmps := vs ++ Array.replicate (fn.ntmps - vs.size) undef, defers := [] } w := by
  refine ⟨by simp; omega, rfl, fun t => ?_, fun k blk hk => by simp [NoM] at hk, fun b hb => ⟨hB b hb, hG b⟩, fun b hb => absurd (hG b) hb⟩
  simp only [q8g]
  cases ht : args[t]? with
  | none => exact .undef _
  | some x =>
   have hlt : t < vs.size := by
    rw [hsz]
    rcases Nat.lt_or_ge t args.length with h' | h'
    ·exact h'
    ·rw [List.getElem?_eq_none h'] at ht; cases ht
   have : (vs ++ Array.replicate (fn.ntmps - vs.size) undef).getD t undef = vs[t] := by
    rw [Array.getD_eq_getD_getElem?, Array.getElem?_append_left hlt]
    simp [hlt]
   simp only [Option.getD_some, this]
   exact hv t x _ ht (by simp [hlt])
 refine h c h6 B G _ w hR _ fun e s a' w' G' hA hR' hq => ?_
 have hA' : Adv G w (G'.without q5q) w' := ⟨hA.os, hA.tape, hA.output, hA.size, fun b hb ho => ⟨(hA.keep b hb ho).1, q4y G' b⟩⟩
 have hfin : ∀ {x : AVal} {v : Value}, x.stb = true → VR (Dm s.M) (G'.without q5q) B w' x v → VR (Dm NoM) (G'.without q5q) B w' x v := fun hs hx =>
  hx.stable (fun b _ hn _ => ⟨rfl, hn, q4y G' b⟩) hs
 have hret : ∀ xs ys, q54 E.TE s fn.results.toList = some xs → q0j xs = true → qsf xs ys → ∃ v, (results fn a'.tmps).run E.P w' = .ok v w' ∧ VR (Dm NoM) (G'.without q5q) B w' (z8m ys) v := by
  intro xs ys hx hs hsub
  obtain ⟨v, e1, e2⟩ := z8j E.hT hR' hx hsub
  refine ⟨v, e1, hfin ?_ e2⟩
  have hs := qse hsub hs
  clear e2 hsub hx
  match ys, hs with
  | [], _ => rfl
  | [x], hs => simp only [q0j, Bool.and_true] at hs; exact hs
  | x :: y :: l, hs => exact hs
 cases e with
 | normal =>
  obtain ⟨xs, hx, hs, ys, hsub, rfl⟩ := hq
  obtain ⟨v, e1, e2⟩ := hret xs ys hx hs hsub
  exact ⟨hR'.defers, v, e1, G'.without q5q, v, q4y G', hA', rfl, e2⟩
 | ret =>
  obtain ⟨xs, hx, hs, ys, hsub, rfl⟩ := hq
  obtain ⟨v, e1, e2⟩ := hret xs ys hx hs hsub
  exact ⟨hR'.defers, v, e1, G'.without q5q, v, q4y G', hA', rfl, e2⟩
 | exit id => exact hq.elim
 | pan x =>
  intro v' hV
  obtain ⟨hs, rfl⟩ := hq
  exact ⟨hR'.defers, G'.without q5q, v', q4y G', hA', rfl, hfin hs (qqt hR'.mem hV)⟩
end
def tyI (P : Program) (t : TypeId) : Option TyI :=
 match P.underlying t, P.info? t with
 | some d, some inf => match inf.zero with
  | some z => some ⟨TD.of d, inf.size, inf.bytes, z⟩
  | none => none
 | _, _ => none
def tyOf (l : List (Nat × TyI)) : TyE := fun t => (l.find? fun p => p.1 == t).map (·.2)
theorem tyOk_of {P : Program} {l : List (Nat × TyI)} (h : l.map (fun p => tyI P p.1) = l.map (fun p => some p.2)) (hz : l.all (fun p => p.2.zero.cells.size == p.2.size) = true) : q45 P (tyOf l) := by
 intro t i ht
 simp only [tyOf, Option.map_eq_some_iff] at ht
 obtain ⟨p, hp, rfl⟩ := ht
 have hm := List.mem_of_find?_eq_some hp
 have he : p.1 = t := by simpa using List.find?_some hp
 have h1 : tyI P p.1 = some p.2 := by
  obtain ⟨n, hn, rfl⟩ := List.getElem_of_mem hm
  have := congrArg (fun l => l[n]?) h
  simpa [hn] using this
 have h2 := List.all_eq_true.1 hz p hm
 subst he
 unfold tyI at h1
 cases hu : P.underlying p.1 with
 | none => simp [hu] at h1
 | some d =>
  cases hq : P.info? p.1 with
  | none => simp [hu, hq] at h1
  | some inf =>
   cases hr : inf.zero with
   | none => simp [hu, hq, hr] at h1
   | some z =>
    simp only [hu, hq, hr, Option.some.injEq] at h1
    rw [← h1] at h2 ⊢
    exact ⟨d, inf, rfl, rfl, rfl, rfl, rfl, hr, by simpa using h2⟩
def eqChk (P : Program) (t : TypeId) : Bool := !P.stoodInHeld t && !P.eqGuardType P.depth t && (P.fieldsOf t).toList.all fun f => f.name != "_"
theorem eqOk_of {P : Program} {l : List Nat} (h : l.all (eqChk P) = true) : ∀ t, l.contains t = true → EqOk P t := by
 intro t ht
 have := List.all_eq_true.1 h t (by simpa using ht)
 simp only [eqChk, Bool.and_eq_true, Bool.not_eq_true'] at this
 refine ⟨this.1.1, this.1.2, fun f hf hn => ?_⟩
 have := List.all_eq_true.1 this.2 f hf
 simp [hn] at this
theorem Wk.temps {n : Nat} {T T' : q1x} {M : Mem} (h : ∀ t, T' t = T t ∨ T' t = .undef) : Wk n ⟨T, M⟩ ⟨T', M⟩ := fun B G a w hR =>
 ⟨G, ⟨hR.size, hR.defers, fun t => by
  show VR (Dm M) G B w (T' t) (a.tmps.getD t undef)
  rcases h t with e | e <;> rw [e]
  ·exact hR.temps t
  ·exact .undef _, hR.mem, hR.fr, hR.ol⟩, .refl G w⟩
def AVal.no (K : Nat → Bool) (x : AVal) : Bool :=
 match x with
 | .ptr k _ => !K k
 | .os k _ => !K k
 | .eptr k _ _ _ _ => !K k
 | .vw k _ _ _ _ => !K k
 | .mp k => !K k
 | x => x.stb
theorem VR.drop {K : Nat → Bool} {M : Mem} {G : Gh} {B : Nat → Prop} {w : World} {x : AVal} {v : Value} (h : VR (Dm M) G B w x v) (hn : x.no K = true) :
 VR (Dm fun k => if K k = true then none else M k) (G.without K) B w x v := by
 have hD : ∀ k e, K k = false → Dm M k e → Dm (fun k => if K k = true then none else M k) k e := fun k e hk hd => by
  simpa [Dm, hk] using hd
 cases x <;> simp only [AVal.no, Bool.not_eq_true'] at hn
 case ptr k off => cases h with | ptr _ _ hd => exact .ptr k off (hD _ _ hn hd)
 case mp k => cases h with | mp _ hd => exact .mp k (hD _ _ hn hd)
 case os k e => cases h with | os _ _ hd v hv => exact .os k e (hD _ _ hn hd) v hv
 case vw k e sz i m => cases h with | vw _ _ _ _ _ b o len cap hd hh hm => exact .vw k e sz i m b o len cap (hD _ _ hn hd) hh hm
 case eptr k e sz i off => cases h with | eptr _ _ _ _ _ b o len cap hd hh => exact .eptr k e sz i off b o len cap (hD _ _ hn hd) hh
 all_goals exact h.stable (fun b _ hb ho => ⟨rfl, hb, q11 ho⟩) hn
def AVal.noC (K : Nat → Bool) : AVal → Bool
 | .own _ xs => (flat xs).all fun y => y.no K
 | .hole => true
 | .ref _ => false
 | x => x.no K
theorem CellRel.drop {K : Nat → Bool} {M : Mem} {G : Gh} {B : Nat → Prop} {w : World} {k i : Nat} {x : AVal} {v : Value} (hk : K k = false) (h : CellRel (Dm M) G B w k i x v)
 (hn : x.noC K = true) :
 CellRel (Dm fun k => if K k = true then none else M k) (G.without K) B w k i x v := by
 have hkey : ∀ b, G.ow b = some (.cell k i) → (G.without K).ow b = some (.cell k i) := fun b hb => by simp [Gh.without, hb, OKey.of, hk]
 cases x <;> first | exact VR.drop h hn | exact trivial | (simp [AVal.noC] at hn; done) | skip
 case own sz xs =>
  rcases h with h | ⟨b, o, cap, c, el, h1, h2, h3, h4, h5, h6, h7, h7', h8⟩
  ·exact .inl h
  ·exact .inr ⟨b, o, cap, c, el, h1, h2, hkey b h3, h4, h5, h6, h7, h7', fun n y hy => let ⟨u, hu, hr⟩ := h8 n y hy; ⟨u, hu, hr.drop (List.all_eq_true.1 hn y (List.mem_of_getElem? hy))⟩⟩
def ABlk.no (K : Nat → Bool) : ABlk → Bool
 | .cells cs => cs.all fun x => x.noC K
 | .arr _ _ xs => (flat xs).all fun y => y.no K
 | .dead => true
 | .map es => es.all fun p => p.1.no K && p.2.no K
theorem Wk.drop {n : Nat} {T : q1x} {M M' : Mem} (K : Nat → Bool) (hT : ∀ t, (T t).no K = true) (hM : ∀ k blk, K k = false → M k = some blk → blk.no K = true) (hM' : M' = fun k => if K k = true then none else M k) : Wk n ⟨T, M⟩ ⟨T, M'⟩ := by
 subst hM'
 intro B G a w hR
 refine ⟨G.without K, ⟨hR.size, hR.defers, fun t => (hR.temps t).drop (hT t), fun k blk hk => ?_, fun b hb => ⟨(hR.fr b hb).1, q11 (hR.fr b hb).2⟩, fun b hb => hR.ol b fun hn => hb (q11 hn)⟩,
  ⟨⟨rfl, Nat.le_refl _⟩, rfl, rfl, Nat.le_refl _, fun b _ ho => ⟨rfl, q11 ho⟩⟩⟩
 by_cases hK : K k = true
 ·simp [hK] at hk
 ·have hK' : K k = false := by simpa using hK
  simp only [hK', Bool.false_eq_true, if_false] at hk
  have hb := hM k blk hK' hk
  have h0 := hR.mem k blk hk
  cases blk with
  | cells cs =>
   obtain ⟨c, el, b1, b2, b3, b4, b5⟩ := h0
   refine ⟨c, el, by simp [Gh.without, b1, OKey.of, hK'], b2, b3, b4, fun i x hx => ?_⟩
   obtain ⟨u, hu, hr⟩ := b5 i x hx
   exact ⟨u, hu, hr.drop hK' (List.all_eq_true.1 hb x (List.mem_of_getElem? hx))⟩
  | arr e sz xs =>
   rcases h0 with h | ⟨b, o, cap, c, el, h1, h2, h3, h4, h5, h6, h7, h7', h8⟩
   ·exact .inl h
   ·exact .inr ⟨b, o, cap, c, el, h1, h2, by simp [Gh.without, h3, OKey.of, hK'], h4, h5, h6, h7, h7', fun n y hy => let ⟨u, hu, hr⟩ := h8 n y hy; ⟨u, hu, hr.drop (List.all_eq_true.1 hb y (List.mem_of_getElem? hy))⟩⟩
  | dead => trivial
  | map es =>
   obtain ⟨es', clock, b1, b2, b3, b4, b5⟩ := h0
   refine ⟨es', clock, by simp [Gh.without, b1, OKey.of, hK'], b2, b3, b4, fun i p hp => ?_⟩
   obtain ⟨q, hq, r1, r2⟩ := b5 i p hp
   have := List.all_eq_true.1 hb p (List.mem_of_getElem? hp)
   rw [Bool.and_eq_true] at this
   exact ⟨q, hq, r1.drop this.1, r2.drop this.2⟩

def Ex.andThen (next : (Ex → AS → Prop) → AS → Prop) (Q : Ex → AS → Prop) : Ex → AS → Prop
 | .normal, s => next Q s
 | e, s => Q e s

def FnB (p sz : Nat) (t : Tmp) (ys : List AVal) : Ex → AS → Prop
 | .normal, s => ∃ e, s.T t = .os p e ∧ s.M p = some (.arr e sz ys) ∧ q0j ys = true
 | .ret, s => ∃ e, s.T t = .os p e ∧ s.M p = some (.arr e sz ys) ∧ q0j ys = true
 | _, _ => False
def qdg (args : List AVal) (p sz : Nat) (xs : List AVal) : AS := ⟨upd (q8g args) p (.os p 0), upd NoM p (some (.arr 0 sz xs))⟩
theorem EvOwn.of_body {E : Env} {f : FuncId} {n : Nat} {t : Tmp} {sc : SC} (hf : FnIs E.P f n [.tmp t] sc) {args : List AVal} {p sz : Nat} {xs ys : List AVal} (hl : args.length ≤ n)
 (h : AW E n sc (FnB p sz t ys) (qdg args p sz xs)) : EvOwn E.P f args p sz xs true .undef ys := by
 obtain ⟨fn, c, h1, h2, h3, rfl, h5, h6⟩ := hf
 refine ⟨⟨fn, h1, h2, by simp [h3]⟩, fun B w vs G hG hsz hv hvp hB hol => ?_⟩
 obtain ⟨vp, hvp, hown⟩ := hvp
 have hpl : p < vs.size := by
  rcases Nat.lt_or_ge p vs.size with h' | h'
  ·exact h'
  ·rw [Array.getElem?_eq_none h'] at hvp; cases hvp
 refine calls_of_wp h1 h3 ?_
 let G0 : Gh := G.setHd p 0 vp hown.one G.ow
 have hD : Dm (upd NoM p (some (.arr 0 sz xs))) p 0 := by simp [Dm, q0a]
 have hmono : ∀ {x : AVal} {u : Value}, VR (Dm NoM) G B w x u → VR (Dm (upd NoM p (some (.arr 0 sz xs)))) G0 B w x u := fun hr =>
  VR.mono (D := Dm NoM) (G := G) (G' := G0) (w := w) (w' := w) (B := B) (fun _ _ h => absurd h qeq) (fun _ _ h => absurd h qeq) (fun b _ hn ho => ⟨rfl, hn, ho⟩) hr
 have hR : Rel fn.ntmps B G0 (qdg args p sz xs) { tmps := vs ++ Array.replicate (fn.ntmps - vs.size) undef, defers := [] } w := by
  have hget : ∀ t, t < vs.size → (vs ++ Array.replicate (fn.ntmps - vs.size) undef).getD t undef = vs.getD t undef := fun t ht => by
   rw [Array.getD_eq_getD_getElem?, Array.getElem?_append_left ht, Array.getD_eq_getD_getElem?]
  refine ⟨by simp; omega, rfl, fun t => ?_, fun k blk hk => ?_, hB, hol⟩
  ·simp only [qdg]
   by_cases htp : t = p
   ·subst htp
    rw [q0a]
    refine .os _ 0 hD _ ?_
    rw [hget _ hpl, Array.getD_eq_getD_getElem?, hvp]
    exact q3c.symm
   ·rw [q15 _ _ htp]
    simp only [q8g]
    cases ht : args[t]? with
    | none => exact .undef _
    | some x =>
     have hlt : t < vs.size := by
      rw [hsz]
      rcases Nat.lt_or_ge t args.length with h' | h'
      ·exact h'
      ·rw [List.getElem?_eq_none h'] at ht; cases ht
     simp only [Option.getD_some]
     rw [hget t hlt, Array.getD_eq_getD_getElem?]
     have e : vs[t]? = some vs[t] := by simp [hlt]
     rw [e]
     exact hmono (hv t x _ htp ht e)
  ·simp only [qdg] at hk
   by_cases hkp : k = p
   ·subst hkp
    simp only [q0a, Option.some.injEq] at hk
    subst hk
    show OwnAt _ G0 B w (.arr k) sz xs (G0.hd k 0)
    rw [show G0.hd k 0 = vp from q3c]
    exact OwnAt.trade (D := Dm NoM) (G := G) (B := B) (fun b hb ho => ⟨hb, ho⟩) (fun x _ u hr => hmono hr) hown
   ·rw [q15 _ _ hkp] at hk
    simp [NoM] at hk
 have hA0 : Adv G w G0 w := ⟨⟨rfl, Nat.le_refl _⟩, rfl, rfl, Nat.le_refl _, fun b hb ho => ⟨rfl, ho⟩⟩
 refine h c h6 B G0 _ w hR _ fun e s a' w' G' hA hR' hq => ?_
 have hret : ∀ e, s.T t = .os p e → s.M p = some (.arr e sz ys) → q0j ys = true → a'.defers = [] ∧ ∃ v, (results fn a'.tmps).run E.P w' = .ok v w' ∧ ∃ (G1 : Gh) (v' u : Value), Ending.returned v = .returned v' ∧ (∀ b key, G1.ow b = some key → key = .arr p) ∧
  (∀ b, G1.ow b ≠ none → b < w'.heap.size) ∧ Adv G w G1 w' ∧ OwnAt (Dm NoM) G1 B w' (.arr p) sz ys u ∧ (true = true → v' = u) ∧ (true = false → vs[p]? = some u ∧ VR (Dm NoM) G1 B w' .undef v') := by
  intro e e1 e2 e3
  let G1 : Gh := { G' with ow := fun b => if G'.ow b = some (.arr p) then some (.arr p) else none }
  have hv := hR'.temps t
  rw [e1] at hv
  have hval : a'.tmps.getD t undef = G'.hd p e := by generalize a'.tmps.getD t undef = q at hv; cases hv with | os _ _ _ v hv => exact hv
  have hb : OwnAt (Dm s.M) G' B w' (.arr p) sz ys (G'.hd p e) := hR'.mem p _ e2
  refine ⟨hR'.defers, G'.hd p e, ?_, G1, G'.hd p e, G'.hd p e, rfl, fun b key hk => ?_, fun b hb' => ?_, ?_, ?_, fun _ => rfl, fun hh => by cases hh⟩
  ·have hr : fn.results = #[.tmp t] := by rw [← Array.toList_inj]; simpa using h5
   unfold results
   rw [hr]
   simp only [Sem.run_bind]
   simp [← hval, Array.mapM_eq_mapM_toList]
  ·simp only [G1] at hk
   split at hk
   ·exact (Option.some.inj hk).symm
   ·cases hk
  ·refine hR'.ol b fun hn => hb' ?_
   simp [G1, hn]
  ·have hA1 := hA0.trans hA
   exact ⟨hA1.os, hA1.tape, hA1.output, hA1.size, fun b hb ho => ⟨(hA1.keep b hb ho).1, by simp [G1, (hA1.keep b hb ho).2]⟩⟩
  ·refine hb.trade (fun b hb ho => ⟨hb, by simp [G1, ho]⟩) (fun x hx u hr => ?_)
   exact hr.stable (fun b _ hn ho => ⟨rfl, hn, by simp [G1, ho]⟩) (q4l e3 x hx)
 cases e with
 | normal => obtain ⟨e, e1, e2, e3⟩ := hq; exact hret e e1 e2 e3
 | ret => obtain ⟨e, e1, e2, e3⟩ := hq; exact hret e e1 e2 e3
 | exit id => exact hq.elim
 | pan x => exact hq.elim
theorem Wk.own_nil {n : Nat} {T : q1x} {M : Mem} (t k sz : Nat) (ht : T t = .nil) (hk : M k = none) : Wk n ⟨T, M⟩ ⟨upd T t (.os k 0), upd M k (some (.arr 0 sz []))⟩ := by
 intro B G a w hR
 obtain ⟨G', hA, hR', hh⟩ := hR.nil_arr (k := k) (e := 0) (.inl hk) sz
 refine ⟨G', ⟨hR'.size, hR'.defers, fun u => ?_, hR'.mem, hR'.fr, hR'.ol⟩, hA⟩
 show VR _ G' B w (upd T t (.os k 0) u) _
 by_cases hu : u = t
 ·subst hu
  rw [q0a]
  have hv := hR.temps u
  simp only [ht] at hv
  refine .os k 0 (by simp [Dm, q0a]) _ ?_
  rw [hh]
  generalize a.tmps.getD u undef = q at hv
  cases hv
  rfl
 ·rw [q15 _ _ hu]
  exact hR'.temps u
theorem Wk.view {n : Nat} {T : q1x} {M : Mem} (t k e sz : Nat) {xs : List AVal} (ht : T t = .os k e) (hk : M k = some (.arr e sz xs)) (h0 : 0 < xs.length) : Wk n ⟨T, M⟩ ⟨upd T t (.vw k e sz 0 xs.length), M⟩ := by
 intro B G a w hR
 refine ⟨G, ⟨hR.size, hR.defers, fun u => ?_, hR.mem, hR.fr, hR.ol⟩, .refl G w⟩
 show VR _ G B w (upd T t (.vw k e sz 0 xs.length) u) _
 by_cases hu : u = t
 ·subst hu
  rw [q0a]
  have hv := hR.temps u
  simp only [ht] at hv
  generalize a.tmps.getD u undef = q at hv
  cases hv with
  | os _ _ hD _ hv =>
   have hown := hR.mem k _ hk
   simp only [BlkRel] at hown
   rcases hown with ⟨_, rfl⟩ | ⟨b, o, cap, c, el, h1, h2, h3, h4, h5, h6, h7, h7', h8⟩
   ·simp at h0
   ·rw [hv, h1]
    have := VR.vw (D := Dm M) (G := G) (B := B) (w := w) k e sz 0 xs.length b o xs.length cap hD h1 ⟨by omega, h2⟩
    simpa using this
 ·rw [q15 _ _ hu]
  exact hR.temps u
theorem Wk.unview {n : Nat} {T : q1x} {M : Mem} (t k e sz m : Nat) {xs : List AVal} (ht : T t = .vw k e sz 0 m) (hk : M k = some (.arr e sz xs)) (hm : m ≤ xs.length) :
 Wk n ⟨T, M⟩ ⟨upd T t (.os k (e + 1)), upd M k (some (.arr (e + 1) sz (xs.take m)))⟩ := by
 intro B G a w hR
 have hv := hR.temps t
 simp only [ht] at hv
 generalize hq : a.tmps.getD t undef = q at hv
 cases hv with
 | vw _ _ _ _ _ b o len cap hD hh hn =>
  have hown := hR.mem k _ hk
  simp only [BlkRel] at hown
  rcases hown with ⟨hn', _⟩ | ⟨b', o', cap', c, el, h1, h2, h3, h4, h5, h6, h7, h7', h8⟩
  ·rw [hh] at hn'; cases hn'
  ·rw [hh] at h1
   simp only [Value.slice.injEq, Option.some.injEq, Addr.mk.injEq] at h1
   obtain ⟨⟨rfl, rfl, _⟩, rfl, rfl⟩ := h1
   have hself : w.setRow b c = w := setRow_self w b c el (0, 0) h5
   obtain ⟨G', hA, hR', hh'⟩ := hR.set_arr hk hh (e + 1) o (.inl rfl) (xs.take m) (fun h => by omega) cap (by simp; omega) (fun h => by omega) h5 h3 c h6
    (fun z hz => h7 z (List.mem_of_mem_take hz)) (fun z hz => by rw [q6j h7] at hz; exact h7' z (List.mem_of_mem_take hz)) (fun i x hx => by
     rw [q6j h7, List.getElem?_take] at hx
     split at hx
     ·exact h8 i x hx
     ·cases hx)
   rw [hself] at hA hR'
   refine ⟨G', ⟨hR'.size, hR'.defers, fun u => ?_, hR'.mem, hR'.fr, hR'.ol⟩, hA⟩
   show VR _ G' B w (upd T t (.os k (e + 1)) u) _
   by_cases hu : u = t
   ·subst hu
    rw [q0a, hq]
    refine .os k (e + 1) (by simp [Dm, q0a]) _ ?_
    rw [hh', List.length_take, Nat.min_eq_left hm]
    simp
   ·rw [q15 _ _ hu]
    exact hR'.temps u

section
inductive Kont where
 | done
 | seq (y : SC) (k : Kont)
 | block (id : Nat) (k : Kont)
def KQ (E : Env) (n : Nat) (Q : Ex → AS → Prop) : Kont → Ex → AS → Prop
 | .done => Q
 | .seq y k => Ex.then (AW E n y (KQ E n Q k)) (KQ E n Q k)
 | .block id k => Ex.inBlock id (KQ E n Q k)
def Run (E : Env) (n : Nat) (Q : Ex → AS → Prop) (x : SC) (k : Kont) (s : AS) : Prop := AW E n x (KQ E n Q k) s
def Fin (E : Env) (n : Nat) (Q : Ex → AS → Prop) (k : Kont) (e : Ex) (s : AS) : Prop := KQ E n Q k e s
section
variable {E : Env} {n : Nat} {Q : Ex → AS → Prop} {k : Kont} {s : AS} {x y : SC}
theorem Run.start (h : Run E n Q x .done s) : AW E n x Q s := h
theorem Run.skip (h : Fin E n Q k .normal s) : Run E n Q .skip k s := AW.skip h
theorem Run.ret (h : Fin E n Q k .ret s) : Run E n Q .ret k s := AW.ret h
theorem Run.exit {id : Nat} (h : Fin E n Q k (.exit id) s) : Run E n Q (.exit id) k s := AW.exit h
theorem Run.seq (h : Run E n Q x (.seq y k) s) : Run E n Q (.seq x y) k s := AW.seq h
theorem Run.block {id : Nat} (h : Run E n Q x (.block id k) s) : Run E n Q (.block id x) k s := AW.block h
theorem Run.cond {o : Operand} (b : Bool) (hb : ev s.T o = .bool b) (ht : b = true → Run E n Q x k s) (hf : b = false → Run E n Q y k s) : Run E n Q (.cond o x y) k s := AW.cond hb ht hf
theorem Run.ops {d : Bool} {l : List SOp} (h : q0c E d none (KQ E n Q k) l s) : Run E n Q (.ops d l) k s := AW.ops h
theorem Run.opsW (K : Nat → Bool) {ws : List Nat} {l : List SOp} (h : q0c E true (some (ws, K)) (KQ E n Q k) l s) : Run E n Q (.opsW ws l) k s := AW.opsW K h
theorem Run.wk {s' : AS} (hw : Wk n s s') (h : Run E n Q x k s') : Run E n Q x k s := AW.wk hw h
theorem Run.loop (I : Nat → AS → Prop) {m0 : Nat} (h0 : I m0 s) (round : ∀ m s, I m s → AW E n x (Ex.then (fun s' => ∃ m' s'', m' < m ∧ Wk n s' s'' ∧ I m' s'') (KQ E n Q k)) s) : Run E n Q (.loop x) k s := AW.loop I h0 round
theorem Fin.done {e : Ex} (h : Q e s) : Fin E n Q .done e s := h
theorem Fin.seq (h : Run E n Q y k s) : Fin E n Q (.seq y k) .normal s := h
theorem Fin.seq_ret (h : Fin E n Q k .ret s) : Fin E n Q (.seq y k) .ret s := h
theorem Fin.seq_exit {id : Nat} (h : Fin E n Q k (.exit id) s) : Fin E n Q (.seq y k) (.exit id) s := h
theorem Fin.block {id : Nat} (h : Fin E n Q k .normal s) : Fin E n Q (.block id k) .normal s := h
theorem Fin.block_ret {id : Nat} (h : Fin E n Q k .ret s) : Fin E n Q (.block id k) .ret s := h
theorem Fin.block_exit {id : Nat} (h : Fin E n Q k .normal s) : Fin E n Q (.block id k) (.exit id) s := by
 show (if id = id then _ else _)
 rw [if_pos rfl]; exact h
theorem Fin.block_other {id id' : Nat} (hne : (id' == id) = false) (h : Fin E n Q k (.exit id') s) : Fin E n Q (.block id k) (.exit id') s := by
 show (if id' = id then _ else _)
 rw [if_neg (by simpa using hne)]; exact h
theorem Fin.tmp {t : Tmp} {T : q1x} {M : Mem} {x y : AVal} (h : fz q5q M (T t) = x) (hs : x.stb = true) (hsub : sub1 x y) : Fin E n (FnQ E.TE [.tmp t] (.ret y)) .done .ret ⟨T, M⟩ :=
 ⟨[x], by simp [q54, q8k, h], by simp [q0j, hs], [y], ⟨hsub, trivial⟩, rfl⟩
theorem Fin.tmp' {t : Tmp} {T : q1x} {M : Mem} {x : AVal} (h : fz q5q M (T t) = x) (hs : x.stb = true) : Fin E n (FnQ E.TE [.tmp t] (.ret x)) .done .ret ⟨T, M⟩ := Fin.tmp h hs (.inl rfl)
theorem Fin.nil {t : Tmp} {T : q1x} {M : Mem} {sz : Nat} (h : T t = .nil) : Fin E n (FnQ E.TE [.tmp t] (.ret (.sl sz []))) .done .ret ⟨T, M⟩ := Fin.tmp (x := .nil) (by rw [h]; rfl) rfl (.inr ⟨rfl, sz, rfl⟩)
theorem Fin.two {t u : Tmp} {T : q1x} {M : Mem} {x x' y y' : AVal} (h : fz q5q M (T t) = x) (hs : x.stb = true) (h' : fz q5q M (T u) = x') (hs' : x'.stb = true) (hsub : sub1 x y) (hsub' : sub1 x' y') : Fin E n (FnQ E.TE [.tmp t, .tmp u] (.ret (.tup [y, y']))) .done .ret ⟨T, M⟩ :=
 ⟨[x, x'], by simp [q54, q8k, h, h'], by simp [q0j, hs, hs'], [y, y'], ⟨hsub, hsub', trivial⟩, rfl⟩
theorem Fin.all {rs : List ResultVar} {xs : List AVal} {y : AVal} (h : q54 E.TE s rs = some xs) (hs : q0j xs = true) (hy : y = z8m xs) : Fin E n (FnQ E.TE rs (.ret y)) .done .ret s :=
 ⟨xs, h, hs, xs, q38 xs, by rw [hy]⟩
end
section
variable {E : Env} {d : Bool} {RK : Option (List Nat × (Nat → Bool))} {Q : Ex → AS → Prop} {r : List SOp} {T : q1x} {M : Mem} {s : AS} {dst : Option Tmp} {op : Op}
def q8w : Op → Bool
 | .call ⟨.value _, _, _⟩ => false
 | .panic _ => false
 | _ => true
def z9r (d : Bool) (RK : Option (List Nat × (Nat → Bool))) (dst : Option Tmp) (op : Op) (T : q1x) (ups : List (Nat × ABlk)) : Bool :=
 (!d || qe3 (RK.map (·.1)) dst op != .r || ups.isEmpty) && qhz RK dst op T
theorem zkz {dst : Option Tmp} {op : Op} {T : q1x} {ups : List (Nat × ABlk)} : z9r false none dst op T ups = true := rfl
theorem step_of {v : AVal} {ups : List (Nat × ABlk)} (hp : q8w op = true) (h : opS E.TE E.EQ s dst op = some (v, ups)) (hc : z9r d RK dst op s.T ups = true)
 {g : Option (Option Tmp × Bool)} {K : AS → Prop} (k : K (AS.put ⟨s.T, ap s.M ups⟩ dst v)) : stepS E d RK ⟨dst, op, g⟩ s Q K := by
 unfold z9r at hc
 simp only [Bool.and_eq_true] at hc
 have hc1 : d = true → qe3 (RK.map (·.1)) dst op = .r → ups = [] := fun hd hr => by
  have := hc.1
  simpa [hd, hr] using this
 refine .inl ?_
 unfold stepM
 split
 ·rename_i ho
  simp only at ho
  rw [ho] at hp
  simp [q8w] at hp
 ·rename_i ho
  simp only at ho
  rw [ho] at hp
  simp [q8w] at hp
 ·simp only [h]
  exact ⟨⟨hc1, hc.2⟩, k⟩
theorem awp_nilK {n : Nat} {Q : Ex → AS → Prop} {k : Kont} (h : Fin E n Q k .normal s) : q0c E d RK (KQ E n Q k) [] s := h
theorem awp_op {v : AVal} {ups : List (Nat × ABlk)} (hp : q8w op = true) (h : opS E.TE E.EQ ⟨T, M⟩ dst op = some (v, ups)) (hc : z9r d RK dst op T ups = true)
 (k : q0c E d RK Q r (AS.put ⟨T, ap M ups⟩ dst v)) : q0c E d RK Q (⟨dst, op, none⟩ :: r) ⟨T, M⟩ := step_of hp h hc k
theorem q9z {t : Option Tmp} {x : Operand} {args : Array Operand} {ts : Array TypeId} (h : qrd E.P d RK ⟨T, M⟩ x args (callK (q0c E d RK Q r) T t) (callQ Q T)) :
 q0c E d RK Q (⟨t, .call ⟨.value x, args, ts⟩, none⟩ :: r) ⟨T, M⟩ := .inl h
theorem q2t {t : Tmp} {x : Operand} {args : Array Operand} {ts : Array TypeId} {f : FuncId} {caps l : List AVal} {v : AVal} (hf : ev T x = .fn f caps)
 (hl : (evs T args.toList ++ caps).map (fz (fun _ => false) M) = l) (hs : q0j l = true) (he : Ev E.P f l (.ret v)) (k : q0c E d RK Q r ⟨upd T t v, M⟩) :
 q0c E d RK Q (⟨some t, .call ⟨.value x, args, ts⟩, none⟩ :: r) ⟨T, M⟩ := q9z (z9y hf hl hs he k)
theorem z81 {t : Tmp} {x : Operand} {args : Array Operand} {ts : Array TypeId} (K : Nat → Bool) {f : FuncId} {caps l : List AVal} {v : AVal} (hf : ev T x = .fn f caps)
 (hl : (evs T args.toList ++ caps).map (fz K M) = l) (hs : q0j l = true) (he : Ev E.P f l (.ret v)) (hv : v.flt = true) (hr : RK = none) (k : q0c E d RK Q r ⟨upd T t v, M⟩) :
 q0c E d RK Q (⟨some t, .call ⟨.value x, args, ts⟩, none⟩ :: r) ⟨T, M⟩ :=
 q9z (qea K hf hl hs he ⟨fun _ => .inl hv, fun h => by rw [hr] at h; cases h⟩ (by rw [if_pos hv]; exact k))
theorem qhu {t : Tmp} {x : Operand} {args : Array Operand} {ts : Array TypeId} (K : Nat → Bool) {f : FuncId} {caps l : List AVal} {v : AVal} (hf : ev T x = .fn f caps)
 (hl : (evs T args.toList ++ caps).map (fz K M) = l) (hs : q0j l = true) (he : Ev E.P f l (.ret v)) (hv : v.flt = false) (k : q0c E false none Q r ⟨upd T t v, kill K M⟩) :
 q0c E false none Q (⟨some t, .call ⟨.value x, args, ts⟩, none⟩ :: r) ⟨T, M⟩ :=
 q9z (qea K hf hl hs he ⟨fun h => absurd h (by simp), fun h => absurd h (by simp)⟩ (by rw [if_neg (by rw [hv]; simp)]; exact k))
theorem z82 {t : Tmp} {x : Operand} {args : Array Operand} {ts : Array TypeId} (p j : Nat) {f : FuncId} {e sz : Nat} {xs args' ys : List AVal} (hf : ev T x = .fn f []) (hp : (evs T args.toList)[p]? = some (.os j e))
 (hk : M j = some (.arr e sz xs)) (ha : ((evs T args.toList).map (fz (fun _ => false) M)).set p .undef = args') (hst : q0j args' = true) (hxs : q0j xs = true) (hys : q0j ys = true)
 (he : EvOwn E.P f args' p sz xs true .undef ys) (k : q0c E false none Q r ⟨upd T t (.os j (e + 1)), upd M j (some (.arr (e + 1) sz ys))⟩) :
 q0c E false none Q (⟨some t, .call ⟨.value x, args, ts⟩, none⟩ :: r) ⟨T, M⟩ := q9z (z9z p j hf hp hk ha hst hxs hys he k)
theorem z80 {t : Tmp} {x : Operand} {args : Array Operand} {ts : Array TypeId} (p j : Nat) {f : FuncId} {e sz : Nat} {xs args' ys : List AVal} {v : AVal} (hf : ev T x = .fn f []) (hp : (evs T args.toList)[p]? = some (.os j e))
 (hk : M j = some (.arr e sz xs)) (ha : ((evs T args.toList).map (fz (fun _ => false) M)).set p .undef = args') (hst : q0j args' = true) (hxs : q0j xs = true) (hys : q0j ys = true) (hr : v.stb = true)
 (he : EvOwn E.P f args' p sz xs false v ys) (k : q0c E false none Q r ⟨upd T t v, upd M j (some (.arr e sz ys))⟩) :
 q0c E false none Q (⟨some t, .call ⟨.value x, args, ts⟩, none⟩ :: r) ⟨T, M⟩ := q9z (qht p j hf hp hk ha hst hxs hys hr he k)
theorem q4j {posts : AVal → Mem → Prop} (h : Hook E.P ⟨T, M⟩ op posts) (k : ∀ v M', posts v M' → q0c E false none Q r (AS.put ⟨T, M'⟩ dst v)) : q0c E false none Q (⟨dst, op, none⟩ :: r) ⟨T, M⟩ :=
 .inr (.inl ⟨rfl, posts, h, k⟩)
theorem awp_new {t : Tmp} {x : Operand} {args : Array Operand} {ts : Array TypeId} {f : FuncId} {caps l cs : List AVal} (hf : ev T x = .fn f caps)
 (hl : (evs T args.toList ++ caps).map (fz (fun _ => false) M) = l) (hs : q0j l = true) (he : EvNew E.P f l cs) (hM : M t = none) (k : q0c E d none Q r ⟨upd T t (.ptr t 0), upd M t (some (.cells cs))⟩) :
 q0c E d none Q (⟨some t, .call ⟨.value x, args, ts⟩, none⟩ :: r) ⟨T, M⟩ :=
 .inr (.inr ⟨rfl, x, args, ts, f, caps, _, _, t, rfl, hf, by rw [hl]; exact hs, by rw [hl]; exact .inl ⟨cs, rfl, rfl, he⟩, rfl, hM, k⟩)
theorem zlj {t : Tmp} {x : Operand} {args : Array Operand} {ts : Array TypeId} {f : FuncId} {caps l xs : List AVal} {sz : Nat} (hf : ev T x = .fn f caps)
 (hl : (evs T args.toList ++ caps).map (fz (fun _ => false) M) = l) (hs : q0j l = true) (he : EvFresh E.P f l sz xs) (hM : M t = none) (k : q0c E d none Q r ⟨upd T t (.os t 0), upd M t (some (.arr 0 sz xs))⟩) :
 q0c E d none Q (⟨some t, .call ⟨.value x, args, ts⟩, none⟩ :: r) ⟨T, M⟩ :=
 .inr (.inr ⟨rfl, x, args, ts, f, caps, _, _, t, rfl, hf, by rw [hl]; exact hs, by rw [hl]; exact .inr ⟨sz, xs, rfl, rfl, he⟩, rfl, hM, k⟩)
theorem Hook.nil_eq {P : Program} {TE : TyE} (hT : q45 P TE) {t u : TypeId} {x : Operand} {sz : Nat} {e : TypeId} {s1 b1 : Nat} {z : Value} (ht : TE t = some ⟨.slice e, s1, b1, z⟩) (hx : ev s.T x = .sl sz []) :
 Hook P s (.binOp .eql t x (.const (.slice none 0 0)) u) (fun v M' => M' = s.M ∧ ∃ b, v = .bool b) := by
 intro n B G a w hR o ho K Q hK
 have hv := hR.ev x
 rw [hx] at hv
 obtain ⟨b0, hrun⟩ : ∃ b, (execOp a.eval o).run P w = .ok (.value (.bool b)) w := by
  unfold execOp
  rw [ho]
  obtain ⟨d, inf, q1, q2, _⟩ := hT t _ ht
  have hs : ∃ base len cap, a.eval x = .slice base len cap := by
   generalize a.eval x = q at hv
   cases hv with
   | slnil => exact ⟨_, _, _, rfl⟩
   | slemp => exact ⟨_, _, _, rfl⟩
   | sl _ _ b off cap f _ _ _ _ _ _ => exact ⟨_, _, _, rfl⟩
  obtain ⟨base, len, cap, hs⟩ := hs
  have hd : d = .slice e := by cases d <;> simp [TD.of] at q2; rw [q2]
  subst hd
  have hc : a.eval (.const (.slice none 0 0)) = .slice none 0 0 := rfl
  have hb : ∃ r, (Op.equalIn (9999 + 1) t (.slice base len cap) (.slice none 0 0)).run P w = .ok r w := by
   cases base with
   | none => exact ⟨true, eqS q1 w _ _ _ _ _ _ _ _ (.inl ⟨rfl, rfl⟩)⟩
   | some q => exact ⟨false, eqS q1 w _ _ _ _ _ _ _ _ (.inr ⟨rfl, rfl, rfl⟩)⟩
  obtain ⟨r, hr⟩ := hb
  obtain ⟨g1, _⟩ := q6d (t := t) (ox := x) (oy := .const (.slice none 0 0)) (x' := .slice base len cap) (y' := .slice none 0 0) (fun op => by cases op <;> rfl) rfl rfl hr
  refine ⟨r, ?_⟩
  simp only [hs, hc]
  rw [Sem.run_bind, g1]
  rfl
 unfold Oper.wp
 rw [hrun]
 exact hK (.bool b0) (.bool b0) s.M w G ⟨rfl, b0, rfl⟩ (.refl G w) hR (.bool b0)
end
end
section
def tms : List (Nat × AVal) → q1x
 | [] => fun _ => .undef
 | (k, v) :: r => upd (tms r) k v
theorem zap {T : q1x} : ∀ {l : List (Nat × AVal)}, (∀ p ∈ l, T p.1 = p.2) → ∀ t, tms l t = T t ∨ tms l t = .undef
 | [], _, t => .inr rfl
 | (k, v) :: r, h, t => by
  simp only [tms]
  by_cases ht : t = k
  ·subst ht
   rw [q0a]
   exact .inl (h (t, v) (by simp)).symm
  ·rw [q15 _ _ ht]
   exact zap (fun p hp => h p (by simp [hp])) t
theorem zaq {K : Nat → Bool} : ∀ {l : List (Nat × AVal)}, (∀ p ∈ l, p.2.no K = true) → ∀ t, (tms l t).no K = true
 | [], _, t => rfl
 | (k, v) :: r, h, t => by
  simp only [tms]
  by_cases ht : t = k
  ·subst ht
   rw [q0a]
   exact h (t, v) (by simp)
  ·rw [q15 _ _ ht]
   exact zaq (fun p hp => h p (by simp [hp])) t
def allT (T : q1x) : List (Nat × AVal) → Prop
 | [] => True
 | (k, v) :: r => T k = v ∧ allT T r
theorem qrf {T : q1x} : ∀ {l : List (Nat × AVal)}, allT T l → ∀ p ∈ l, T p.1 = p.2
 | [], _, p, hp => by cases hp
 | (k, v) :: r, h, p, hp => by
  rcases List.mem_cons.1 hp with rfl | hp
  ·exact h.1
  ·exact qrf h.2 p hp
def qpo (K : Nat → Bool) : List (Nat × AVal) → Prop
 | [] => True
 | (_, v) :: r => v.no K = true ∧ qpo K r
theorem qhv {K : Nat → Bool} : ∀ {l : List (Nat × AVal)}, qpo K l → ∀ p ∈ l, p.2.no K = true
 | [], _, p, hp => by cases hp
 | (k, v) :: r, h, p, hp => by
  rcases List.mem_cons.1 hp with rfl | hp
  ·exact h.1
  ·exact qhv h.2 p hp
theorem q1d {K : Nat → Bool} {x : AVal} (h : x.stb = true) : x.no K = true := by
 cases x <;> first | exact h | (simp [AVal.stb] at h)
theorem Wk.to {n : Nat} {T : q1x} {M M' : Mem} (K : Nat → Bool) (l : List (Nat × AVal)) (h : allT T l) (hn : qpo K l) (hM : ∀ k blk, K k = false → M k = some blk → blk.no K = true)
 (hM' : M' = fun k => if K k = true then none else M k) : Wk n ⟨T, M⟩ ⟨tms l, M'⟩ :=
 (Wk.temps (zap (qrf h))).trans (Wk.drop K (zaq (qhv hn)) hM hM')
theorem Wk.clean {n : Nat} {T : q1x} {M : Mem} (l : List (Nat × AVal)) (h : allT T l) (hn : qpo (fun _ => true) l) : Wk n ⟨T, M⟩ ⟨tms l, NoM⟩ :=
 Wk.to (fun _ => true) l h hn (fun k blk hk => by cases hk) (by funext k; simp [NoM])
theorem Wk.keep {n : Nat} {T : q1x} {M : Mem} (l : List (Nat × AVal)) (h : allT T l) : Wk n ⟨T, M⟩ ⟨tms l, M⟩ := Wk.temps (zap (qrf h))
def mms : List (Nat × ABlk) → Mem
 | [] => NoM
 | (k, v) :: r => upd (mms r) k (some v)
def allM (M : Mem) : List (Nat × ABlk) → Prop
 | [] => True
 | (k, v) :: r => M k = some v ∧ allM M r
def qre (K : Nat → Bool) : List (Nat × ABlk) → Prop
 | [] => True
 | (_, v) :: r => v.no K = true ∧ qre K r
def qqd : List (Nat × ABlk) → Nat → Bool
 | [], _ => true
 | (j, _) :: r, k => !(k == j) && qqd r k
theorem zj1 {M : Mem} : ∀ {l : List (Nat × ABlk)}, allM M l → ∀ k, mms l k = if qqd l k = true then none else M k
 | [], _, k => by simp [mms, qqd, NoM]
 | (j, b) :: r, h, k => by
  simp only [mms, qqd]
  by_cases hk : k = j
  ·subst hk
   simp [q0a, h.1]
  ·rw [q15 _ _ hk, zj1 h.2 k]
   simp [hk]
theorem z7x {K : Nat → Bool} {M : Mem} : ∀ {l : List (Nat × ABlk)}, allM M l → qre K l → ∀ k blk, qqd l k = false → M k = some blk → blk.no K = true
 | [], _, _, k, blk, h, _ => by simp [qqd] at h
 | (j, b) :: r, hm, hn, k, blk, h, hk => by
  by_cases hkj : k = j
  ·subst hkj
   rw [hm.1] at hk
   cases hk
   exact hn.1
  ·refine z7x hm.2 hn.2 k blk ?_ hk
   simpa [qqd, hkj] using h
theorem Wk.toL {n : Nat} {T : q1x} {M : Mem} (l : List (Nat × AVal)) (m : List (Nat × ABlk)) (h : allT T l) (hm : allM M m) (hn : qpo (qqd m) l) (hb : qre (qqd m) m) : Wk n ⟨T, M⟩ ⟨tms l, mms m⟩ :=
 Wk.to (qqd m) l h hn (fun k blk hk hM => z7x hm hb k blk hk hM) (funext fun k => zj1 hm k)
theorem Wk.own_cells {n : Nat} {T : q1x} {M : Mem} {k : Nat} {cs cs' : List AVal} (hk : M k = some (.cells cs)) (hl : cs'.length = cs.length) (h : ∀ (i : Nat) (x y : AVal), cs[i]? = some x → cs'[i]? = some y → y = x ∨ (x = .nil ∧ ∃ sz, y = .own sz [])) :
 Wk n ⟨T, M⟩ ⟨T, upd M k (some (.cells cs'))⟩ := by
 intro B G a w hR
 obtain ⟨c, el, b1, b2, b3, b4, b5⟩ := hR.mem k _ hk
 have hA : Adv G w G w := .refl G w
 refine ⟨G, hR.update hA k (.cells cs') (by show za7 (M k) _; rw [hk]; trivial) (fun _ _ _ => ⟨rfl, rfl⟩) (fun b key _ _ ho _ => ⟨rfl, ho⟩) hR.ol ?_, hA⟩
 have hD : ∀ j e, Dm M j e → Dm (upd M k (some (.cells cs'))) j e := fun j e => q5m (by rw [hk]; trivial)
 have hw : ∀ b, b < w.heap.size → ¬ B b → G.ow b = none → w.heap[b]? = w.heap[b]? ∧ ¬ B b ∧ G.ow b = none := fun b _ hn ho => ⟨rfl, hn, ho⟩
 refine ⟨c, el, b1, b2, b3, by rw [b4, hl], fun i y hy => ?_⟩
 have hlt : i < cs.length := by
  rw [← hl]
  rcases Nat.lt_or_ge i cs'.length with h' | h'
  ·exact h'
  ·rw [List.getElem?_eq_none h'] at hy; cases hy
 obtain ⟨u, hu, hr⟩ := b5 i cs[i] (by simp [hlt])
 refine ⟨u, hu, ?_⟩
 rcases h i cs[i] y (by simp [hlt]) hy with he | ⟨he, sz, rfl⟩
 ·rw [he]
  generalize cs[i] = x at hr
  cases x with
  | own sz xs => exact OwnAt.mono hD (fun _ _ _ => ⟨rfl, rfl⟩) hw (fun b _ hb2 hb3 => ⟨rfl, hb2, hb3⟩) hr
  | hole => trivial
  | _ => exact VR.mono hD (fun _ _ _ => ⟨rfl, rfl⟩) hw hr
 ·rw [he] at hr
  have hu' : u = .slice none 0 0 := by
   have hr' : VR (Dm M) G B w .nil u := hr
   cases hr'
   rfl
  exact .inl ⟨hu', rfl⟩
def za9 (n : Nat) (s2 : AS) (Q : Ex → AS → Prop) : Ex → AS → Prop := Ex.then (fun s' => Wk n s' s2) Q
section
variable {E : Env} {n : Nat} {Q : Ex → AS → Prop} {k : Kont} {s : AS} {x : SC}
theorem Fin.next {s2 : AS} {Q' : Ex → AS → Prop} (h : Wk n s s2) : Fin E n (za9 n s2 Q') .done .normal s := h
theorem Fin.out {s2 : AS} {id : Nat} (h : Fin E n Q k (.exit id) s) : Fin E n (za9 n s2 (KQ E n Q k)) .done (.exit id) s := h
theorem Fin.out_ret {s2 : AS} (h : Fin E n Q k .ret s) : Fin E n (za9 n s2 (KQ E n Q k)) .done .ret s := h
theorem Run.range (len : Nat) (S : Nat → AS) (h0 : Wk n s (S 0)) (round : ∀ i, i < len → Run E n (za9 n (S (i + 1)) (KQ E n Q k)) x .done (S i))
 (last : Run E n (Ex.then (fun _ => False) (KQ E n Q k)) x .done (S len)) : Run E n Q (.loop x) k s := by
 refine Run.wk h0 (Run.loop (fun m s => ∃ i, i ≤ len ∧ m = len - i ∧ s = S i) (m0 := len) ⟨0, Nat.zero_le _, rfl, rfl⟩ fun m s ⟨i, hi, hm, hs⟩ => ?_)
 subst hs
 by_cases hl : i < len
 ·refine AW.mono (round i hl) fun e s' h => ?_
  cases e with
  | normal => exact ⟨len - (i + 1), S (i + 1), by omega, h, i + 1, hl, rfl, rfl⟩
  | _ => exact h
 ·have : i = len := by omega
  subst this
  refine AW.mono last fun e s' h => ?_
  cases e with
  | normal => exact h.elim
  | _ => exact h
theorem Fin.last {id : Nat} (h : Fin E n Q k (.exit id) s) : Fin E n (Ex.then (fun _ => False) (KQ E n Q k)) .done (.exit id) s := h
end
end
section
theorem q2l {x : Int} (h : -9223372036854775808 ≤ x ∧ x ≤ 9223372036854775807) : IntKind.i64.wrap x = x := by
 simp only [IntKind.wrap, IntKind.bits, IntKind.signed]
 simp
 omega
theorem zag {i : Nat} (h : i < 9223372036854775807) : IntKind.i64.wrap ((i : Int) + 1) = ((i + 1 : Nat) : Int) := by rw [q2l (by omega)]; omega
theorem zah {i : Nat} (h : 1 ≤ i ∧ i ≤ 9223372036854775807) : IntKind.i64.wrap ((i : Int) - 1) = ((i - 1 : Nat) : Int) := by rw [q2l (by omega)]; omega
theorem wrap_add {i j : Nat} (h : i + j ≤ 9223372036854775807) : IntKind.i64.wrap ((i : Int) + j) = ((i + j : Nat) : Int) := by rw [q2l (by omega)]; omega
theorem zai {n : Nat} (h : n ≤ 9223372036854775807) : IntKind.i64.wrap ((n : Int).tdiv 2) = ((n / 2 : Nat) : Int) := by
 have e : (n : Int).tdiv 2 = ((n / 2 : Nat) : Int) := by rw [Int.ofNat_tdiv]; rfl
 rw [e, q2l (by omega)]
theorem dT {p : Prop} [Decidable p] (h : p) : decide p = true := decide_eq_true h
theorem dF {p : Prop} [Decidable p] (h : ¬ p) : decide p = false := decide_eq_false h
theorem ltT {a b : Int} (h : a < b) : (a < b) = True := eq_true h
theorem ltF {a b : Int} (h : ¬ a < b) : (a < b) = False := eq_false h
theorem leT {a b : Int} (h : a ≤ b) : (a ≤ b) = True := eq_true h
theorem leF {a b : Int} (h : ¬ a ≤ b) : (a ≤ b) = False := eq_false h
theorem ltTN {a b : Nat} (h : a < b) : (a < b) = True := eq_true h
theorem ltFN {a b : Nat} (h : ¬ a < b) : (a < b) = False := eq_false h
theorem leTN {a b : Nat} (h : a ≤ b) : (a ≤ b) = True := eq_true h
theorem leFN {a b : Nat} (h : ¬ a ≤ b) : (a ≤ b) = False := eq_false h
class Enc (α : Type) where
 enc : α → AVal
 stb : ∀ x, (enc x).stb = true
def encL {α : Type} [Enc α] (l : List α) : List AVal := l.map Enc.enc
section
variable {α : Type} [Enc α]
theorem encL_len (l : List α) : (encL l).length = l.length := by simp [encL]
theorem q14 (l : List α) : q0j (encL l) = true := q4e Enc.stb
theorem encL_get {l : List α} {i : Nat} (h : i < l.length) : (encL l)[i]? = some (Enc.enc l[i]) := by simp [encL, h]
end
def qri {σ : Type} (n : Nat) (S : σ → AS) (ok : σ → Prop) (Q : Ex → AS → Prop) : Ex → AS → Prop := Ex.then (fun s' => ∃ y, ok y ∧ Wk n s' (S y)) Q
section
variable {E : Env} {n : Nat} {Q : Ex → AS → Prop} {k : Kont} {s : AS} {x : SC} {σ : Type} {S : σ → AS} {ok : σ → Prop}
theorem Run.while (S : σ → AS) (I : σ → Prop) (m : σ → Nat) (x0 : σ) (h0 : Wk n s (S x0)) (hI : I x0)
 (round : ∀ y, I y → Run E n (qri n S (fun z => I z ∧ m z < m y) (KQ E n Q k)) x .done (S y)) : Run E n Q (.loop x) k s := by
 refine Run.wk h0 (Run.loop (fun c s => ∃ y, I y ∧ m y = c ∧ s = S y) (m0 := m x0) ⟨x0, hI, rfl, rfl⟩ fun c s ⟨y, hy, hm, hs⟩ => ?_)
 subst hs
 refine AW.mono (round y hy) fun e s' h => ?_
 cases e with
 | normal =>
  obtain ⟨z, ⟨h1, h2⟩, h3⟩ := h
  exact ⟨m z, S z, by omega, h3, z, h1, rfl, rfl⟩
 | _ => exact h
theorem Fin.nextW (y : σ) {Q' : Ex → AS → Prop} (hy : ok y) (h : Wk n s (S y)) : Fin E n (qri n S ok Q') .done .normal s := ⟨y, hy, h⟩
theorem Fin.outW {id : Nat} (h : Fin E n Q k (.exit id) s) : Fin E n (qri n S ok (KQ E n Q k)) .done (.exit id) s := h
theorem Fin.outW_ret (h : Fin E n Q k .ret s) : Fin E n (qri n S ok (KQ E n Q k)) .done .ret s := h
theorem awp_op2 {d : Bool} {RK : Option (List Nat × (Nat → Bool))} {Q : Ex → AS → Prop} {r : List SOp} {T : q1x} {M : Mem} {dst : Option Tmp} {op : Op} {v : AVal} {ups : List (Nat × ABlk)} {s' : AS} (hp : q8w op = true) (h : opS E.TE E.EQ ⟨T, M⟩ dst op = some (v, ups))
 (hc : z9r d RK dst op T ups = true) (hs : AS.put ⟨T, ap M ups⟩ dst v = s') (k : q0c E d RK Q r s') : q0c E d RK Q (⟨dst, op, none⟩ :: r) ⟨T, M⟩ := awp_op hp h hc (hs ▸ k)
end
end
section
theorem qfv {K : Nat → Bool} {e sz : Nat} {xs : List AVal} (h : q0j xs = true) : (ABlk.arr e sz xs).no K = true := by
 simp only [ABlk.no, List.all_eq_true]
 intro x hx
 exact q1d (q4l h x hx)
theorem evs_nil' (T : q1x) : evs T [] = [] := rfl
theorem zk1 (T : q1x) (x : Operand) (l : List Operand) : evs T (x :: l) = ev T x :: evs T l := rfl
theorem evp_nil' (T : q1x) : evp T [] = [] := rfl
theorem zk2 (T : q1x) (x : Nat × Operand) (l : List (Nat × Operand)) : evp T (x :: l) = (x.1, ev T x.2) :: evp T l := rfl
theorem qob (T : q1x) : (none : Option Operand).map (ev T) = none := rfl
theorem qoa (T : q1x) (x : Operand) : (some x).map (ev T) = some (ev T x) := rfl
theorem q6t {α : Type} (f : Nat → α) (k : Nat) (v : α) (j : Nat) : upd f k v j = if j = k then v else f j := rfl
theorem qrs (j : Nat) : tms [] j = .undef := rfl
theorem q3v (k : Nat) (v : AVal) (r : List (Nat × AVal)) (j : Nat) : tms ((k, v) :: r) j = if j = k then v else tms r j := rfl
theorem mms_nil' (j : Nat) : mms [] j = none := rfl
theorem q58 (k : Nat) (v : ABlk) (r : List (Nat × ABlk)) (j : Nat) : mms ((k, v) :: r) j = if j = k then some v else mms r j := rfl
theorem NoM' (j : Nat) : NoM j = none := rfl
theorem initT' (l : List AVal) (j : Nat) : q8g l j = (l[j]?).getD .undef := rfl
section
variable {T : q1x} {M : Mem} {t : Tmp} {v : AVal} {j j' : Nat} {b b' : ABlk}
theorem put_v : AS.put ⟨T, ap M []⟩ (some t) v = ⟨upd T t v, M⟩ := rfl
theorem put_k : AS.put ⟨T, ap M [(j, b)]⟩ (some t) v = ⟨upd T t v, upd M j (some b)⟩ := rfl
theorem put_k2 : AS.put ⟨T, ap M [(j, b), (j', b')]⟩ (some t) v = ⟨upd T t v, upd (upd M j (some b)) j' (some b')⟩ := rfl
theorem put_n : AS.put ⟨T, ap M []⟩ none v = ⟨T, M⟩ := rfl
theorem put_s : AS.put ⟨T, ap M [(j, b)]⟩ none v = ⟨T, upd M j (some b)⟩ := rfl
theorem put_s2 : AS.put ⟨T, ap M [(j, b), (j', b')]⟩ none v = ⟨T, upd (upd M j (some b)) j' (some b')⟩ := rfl
end
class Live (l : List SOp) where
 L : List Nat
class Rd (l : List SOp) where
 K : Nat → Bool
def zb6 (L : List Nat) (T : q1x) : List (Nat × AVal) := L.map fun k => (k, T k)
theorem rstr_nil (T : q1x) : zb6 [] T = [] := rfl
theorem zb5 (k : Nat) (L : List Nat) (T : q1x) : zb6 (k :: L) T = (k, T k) :: zb6 L T := rfl
theorem qge (T : q1x) : ∀ L : List Nat, allT T (zb6 L T)
 | [] => trivial
 | k :: L => ⟨rfl, qge T L⟩
theorem qq0 {α : Type} (f : Nat → α) (k : Nat) (v u : α) : upd (upd f k v) k u = upd f k u := by
 funext j
 simp only [upd]
 split <;> rfl
section
variable {E : Env} {n : Nat} {Q : Ex → AS → Prop} {k : Kont} {d : Bool} {T : q1x} {T' : List (Nat × AVal)} {M M' : Mem}
theorem Run.opsL0 {l l2 : List SOp} (e : l = l2) (L : List Nat) (hT : zb6 L T = T') (hM : M = M') (g : q0c E d none (KQ E n Q k) l2 ⟨tms T', M'⟩) : Run E n Q (.ops d l) k ⟨T, M⟩ := by
 subst hT; subst hM; subst e
 exact Run.wk (Wk.keep (zb6 L T) (qge T L)) (Run.ops g)
theorem Run.opsWL0 (K : Nat → Bool) {ws : List Nat} {l l2 : List SOp} (e : l = l2) (L : List Nat) (hT : zb6 L T = T') (hM : M = M') (g : q0c E true (some (ws, K)) (KQ E n Q k) l2 ⟨tms T', M'⟩) : Run E n Q (.opsW ws l) k ⟨T, M⟩ := by
 subst hT; subst hM; subst e
 exact Run.wk (Wk.keep (zb6 L T) (qge T L)) (Run.opsW K g)
end
end
section
def Hyp (p A : Prop) : Prop := p → A
theorem Hyp.of {p A : Prop} (h : p → A) : Hyp p A := h
def q35 (x : AVal) (b : Bool) (yes no : Prop) : Prop :=
 match x with
 | .bool c => (c = b → yes) ∧ (c = !b → no)
 | .tup _ => no
 | _ => False
section
variable {E : Env} {d : Bool} {RK : Option (List Nat × (Nat → Bool))} {Q : Ex → AS → Prop} {r : List SOp} {T : q1x} {M : Mem} {s' : AS} {dst : Option Tmp} {op : Op} {A B : Prop}
theorem awp_g {t u : Tmp} {b : Bool} {x : AVal} (hT : T t = x) (h : q35 x b (q0c E d RK Q (⟨some u, op, none⟩ :: r) ⟨T, M⟩) (q0c E d RK Q r ⟨upd T u (.tup []), M⟩)) :
 q0c E d RK Q (⟨some u, op, some (some t, b)⟩ :: r) ⟨T, M⟩ := by
 simp only [q0c, zak, hT]
 unfold q35 at h
 cases x <;> first | exact h.elim | exact h
theorem awp_g0 {t : Tmp} {b : Bool} {x : AVal} (hT : T t = x) (h : q35 x b (q0c E d RK Q (⟨none, op, none⟩ :: r) ⟨T, M⟩) (q0c E d RK Q r ⟨T, M⟩)) :
 q0c E d RK Q (⟨none, op, some (some t, b)⟩ :: r) ⟨T, M⟩ := by
 simp only [q0c, zak, hT]
 unfold q35 at h
 cases x <;> first | exact h.elim | exact h
theorem g_tup {l : List AVal} {b : Bool} (h : B) : q35 (.tup l) b A B := h
theorem g_tt (h : A) : q35 (.bool true) true A B := ⟨fun _ => h, fun h => by cases h⟩
theorem g_ff (h : A) : q35 (.bool false) false A B := ⟨fun _ => h, fun h => by cases h⟩
theorem g_tf (h : B) : q35 (.bool true) false A B := ⟨fun h => (by cases h), fun _ => h⟩
theorem g_ft (h : B) : q35 (.bool false) true A B := ⟨fun h => (by cases h), fun _ => h⟩
theorem g_splitT {c : Bool} (h1 : Hyp (c = true) A) (h2 : Hyp (c = false) B) : q35 (.bool c) true A B := ⟨h1, h2⟩
theorem g_splitF {c : Bool} (h1 : Hyp (c = true) B) (h2 : Hyp (c = false) A) : q35 (.bool c) false A B := ⟨h2, h1⟩
end
def qer (x : AVal) (A B : Prop) : Prop :=
 match x with
 | .bool c => (c = true → A) ∧ (c = false → B)
 | _ => False
section
variable {E : Env} {n : Nat} {Q : Ex → AS → Prop} {k : Kont} {x y : SC} {s : AS} {A B : Prop}
theorem Run.condG {o : Operand} {v : AVal} (hb : ev s.T o = v) (h : qer v (Run E n Q x k s) (Run E n Q y k s)) : Run E n Q (.cond o x y) k s := by
 unfold qer at h
 cases v <;> first | exact h.elim | skip
 exact Run.cond _ hb h.1 h.2
theorem c_t (h : A) : qer (.bool true) A B := ⟨fun _ => h, fun h => by cases h⟩
theorem c_f (h : B) : qer (.bool false) A B := ⟨fun h => (by cases h), fun _ => h⟩
theorem c_split {c : Bool} (h1 : Hyp (c = true) A) (h2 : Hyp (c = false) B) : qer (.bool c) A B := ⟨h1, h2⟩
end
theorem kill_app (K : Nat → Bool) (M : Mem) (j : Nat) : kill K M j = if K j = true then (M j).map (fun _ => .dead) else M j := rfl
end
section
def Bp := (aI (aI (aI (aI @opS.eq_1 @opA.eq_1) (aI @evs_nil' (aI @zk1 @evp_nil'))) (aI (aI @zk2 @qob) (aI @qoa (aI @q6t @qrs)))) (aI (aI (aI @q3v @mms_nil') (aI @q58 (aI @NoM' @initT'))) (aI (aI @kill_app @ev.eq_1) (aI @ev.eq_2 (aI @ev.eq_3 @ev.eq_4)))))
def Bq := (aI (aI (aI (aI (aI (aI (aI @qdg.eq_1 @Option.map_some.{0, 0}) (aI @Option.map_none.{0, 0} @List.map_cons.{0, 0})) (aI (aI @List.map_nil.{0, 0} @List.getElem?_cons_zero.{0}) (aI @List.getElem?_cons_succ.{0} (aI @List.getElem?_nil.{0} @List.all_cons.{0})))) (aI (aI (aI @List.all_nil.{0} @List.length_cons.{0}) (aI @List.length_nil.{0} (aI @List.take_succ_cons.{0} @List.take_zero.{0}))) (aI (aI @List.drop_succ_cons.{0} @List.drop_zero.{0}) (aI @List.set_cons_zero.{0} (aI @List.set_cons_succ.{0} @List.cons_append.{0}))))) (aI (aI (aI (aI @List.nil_append.{0} @List.append_nil.{0}) (aI @List.toList_toArray.{0} (aI @q9k.eq_1 @q6h.eq_1))) (aI (aI @q3o.eq_1 @qb5.eq_1) (aI @q9e.eq_1 (aI @q55.eq_1 @qdx.eq_1)))) (aI (aI (aI @zad.eq_1 @q5k.eq_1) (aI @q22.eq_1 (aI @TyI.zeros.eq_1 @TyI.zeroElem.eq_1))) (aI (aI @TyI.okElem.eq_1 @q0k.eq_1) (aI @if_true.{0} (aI @if_false.{0} @Bool.false_eq_true)))))) (aI (aI (aI (aI (aI @false_implies @true_implies) (aI @implies_true.{0} (aI @true_and @and_true))) (aI (aI @and_self @ne_eq.{0}) (aI @not_true (aI @not_false_iff @Bool.and_true)))) (aI (aI (aI @Bool.true_and @Bool.and_false) (aI @Bool.false_and (aI @Bool.or_true @Bool.true_or))) (aI (aI @Bool.or_false @Bool.false_or) (aI @Bool.not_true (aI @Bool.not_false @beq_self_eq_true.{0}))))) (aI (aI (aI (aI @Nat.mul_one @Nat.le_refl) (aI @Nat.zero_add (aI @Nat.add_zero @Option.isSome_some.{0}))) (aI (aI @decide_true @decide_false) (aI @q7h (aI @q9f @List.replicate_succ.{0})))) (aI (aI (aI @List.replicate_zero.{0} @List.flatMap_cons.{0, 0}) (aI @List.flatMap_nil.{0, 0} (aI @flat.eq_1 @Array.size_empty.{0}))) (aI (aI @z9r.eq_1 @List.contains_cons.{0}) (aI @List.contains_nil.{0} (aI @List.isEmpty_nil.{0} @List.isEmpty_cons.{0}))))))) (aI (aI (aI (aI (aI (aI @Int.toNat_natCast @Int.natCast_nonneg) (aI @zai (aI @zag @zah))) (aI (aI @wrap_add @q2l) (aI @dT (aI @dF @ltT)))) (aI (aI (aI @ltF @leT) (aI @leF (aI @ltTN @ltFN))) (aI (aI @leTN @leFN) (aI @encL_len (aI @encL_get @Enc.enc.eq_1))))) (aI (aI (aI (aI @Nat.sub_zero @List.length_take.{0}) (aI @List.length_drop.{0} (aI @List.take_length.{0} @Option.getD.eq_1.{0}))) (aI (aI @Option.getD.eq_2.{0} @boxA.eq_1) (aI @boxA.eq_2 (aI @q8h.eq_1 @q8h.eq_2)))) (aI (aI (aI @zaa.eq_1 @zaa.eq_2) (aI @qhz.eq_1 (aI @qhz.eq_2 @qhz.eq_3))) (aI (aI @qe3.eq_1 @qe3.eq_2) (aI @Go.Op.operands.eq_1 (aI @Go.Op.operands.eq_2 @Go.Op.operands.eq_3)))))) (aI (aI (aI (aI (aI @Go.Op.operands.eq_4 @Go.Op.operands.eq_5) (aI @Go.Op.operands.eq_6 (aI @Go.Op.operands.eq_7 @Go.Op.operands.eq_8))) (aI (aI @Go.Op.operands.eq_9 @Go.Op.operands.eq_10) (aI @Go.Op.operands.eq_11 (aI @Go.Op.operands.eq_12 @Go.Op.operands.eq_13)))) (aI (aI (aI @Go.Op.operands.eq_14 @Go.Op.operands.eq_15) (aI @Go.Op.operands.eq_16 (aI @Go.Op.operands.eq_17 @Go.Op.operands.eq_18))) (aI (aI @Go.Op.operands.eq_19 @Go.Op.operands.eq_20) (aI @Go.Op.operands.eq_21 (aI @Go.Op.operands.eq_22 @Go.Op.operands.eq_23))))) (aI (aI (aI (aI @Go.Op.operands.eq_24 @Go.Op.operands.eq_25) (aI @Go.Op.operands.eq_26 (aI @Go.Op.operands.eq_27 @Go.Op.operands.eq_28))) (aI (aI @Go.Op.operands.eq_29 @Go.Op.operands.eq_30) (aI @Go.Op.operands.eq_31 (aI @Go.Op.operands.eq_32 @Go.Op.operands.eq_33)))) (aI (aI (aI @Go.Op.operands.eq_34 @Go.Op.operands.eq_35) (aI @Go.Op.operands.eq_36 (aI @Go.Op.operands.eq_37 @Go.Op.operands.eq_38))) (aI (aI @Go.Op.operands.eq_39 @Go.Op.operands.eq_40) (aI @Go.Op.operands.eq_41 (aI @Go.Op.operands.eq_42 @Go.Op.operands.eq_43))))))))
def Br := (aI (aI (aI @rstr_nil @zb5) (aI @q6t (aI @qrs @q3v))) (aI (aI @NoM' @initT') (aI @List.getElem?_cons_zero.{0} (aI @List.getElem?_cons_succ.{0} @List.getElem?_nil.{0}))))
def Bh := (aI (aI (aI @decide_eq_true_eq @decide_eq_false_iff_not) (aI @Bool.not_eq_true' @Bool.not_eq_false')) (aI (aI @Bool.and_eq_true @Bool.or_eq_true) (aI @Bool.and_eq_false_iff (aI @Bool.or_eq_false_iff @Classical.not_not))))
section
variable {E : Env} {d : Bool} {RK : Option (List Nat × (Nat → Bool))} {Q : Ex → AS → Prop} {r : List SOp} {T : q1x} {M : Mem} {dst : Option Tmp} {op : Op} {n : Nat} {K : Kont} {x y : SC} {s : AS}
theorem dv {v : AVal} {ups : List (Nat × ABlk)} {s' : AS} (hp : q8w op = true) (h : opS E.TE E.EQ ⟨T, M⟩ dst op = some (v, ups)) (hc : z9r d RK dst op T ups = true) (hs : AS.put ⟨T, ap M ups⟩ dst v = s') (k : q0c E d RK Q r s') : q0c E d RK Q (⟨dst, op, none⟩ :: r) ⟨T, M⟩ := awp_op2 hp h hc hs k
theorem dg {t u : Tmp} {b : Bool} {x : AVal} (h : T t = x) (k : q35 x b (q0c E d RK Q (⟨some u, op, none⟩ :: r) ⟨T, M⟩) (q0c E d RK Q r ⟨upd T u (.tup []), M⟩)) : q0c E d RK Q (⟨some u, op, some (some t, b)⟩ :: r) ⟨T, M⟩ := awp_g h k
theorem dg0 {t : Tmp} {b : Bool} {x : AVal} (h : T t = x) (k : q35 x b (q0c E d RK Q (⟨none, op, none⟩ :: r) ⟨T, M⟩) (q0c E d RK Q r ⟨T, M⟩)) : q0c E d RK Q (⟨none, op, some (some t, b)⟩ :: r) ⟨T, M⟩ := awp_g0 h k
theorem dc {o : Operand} {v : AVal} (h : ev s.T o = v) (k : qer v (Run E n Q x K s) (Run E n Q y K s)) : Run E n Q (.cond o x y) K s := Run.condG h k
end
end
def teL : List (Nat × TyI) := [
 (0, ⟨.other, 1, 0, .tuple ([]).toArray⟩),
 (3, ⟨.int .i64, 1, 8, .int .i64 0⟩),
 (4, ⟨.bool, 1, 1, .bool false⟩),
 (5, ⟨.int .u8, 1, 1, .int .u8 0⟩),
 (9, ⟨.str, 1, 16, .string ByteArray.empty⟩),
 (16, ⟨.ptr 249, 1, 8, .pointer none⟩),
 (20, ⟨.iface, 1, 16, .nilIface⟩),
 (22, ⟨.slice 62, 1, 24, .slice none 0 0⟩),
 (23, ⟨.slice 3, 1, 24, .slice none 0 0⟩),
 (24, ⟨.slice 127, 1, 24, .slice none 0 0⟩),
 (26, ⟨.struct [(23, 0), (24, 1)], 2, 48, .agg ([.slice none 0 0, .slice none 0 0]).toArray⟩),
 (27, ⟨.slice 91, 1, 24, .slice none 0 0⟩),
 (29, ⟨.struct [(22, 0), (26, 1), (27, 3)], 4, 96, .agg ([.slice none 0 0, .slice none 0 0, .slice none 0 0, .slice none 0 0]).toArray⟩),
 (31, ⟨.struct [(22, 0), (26, 1), (27, 3)], 4, 96, .agg ([.slice none 0 0, .slice none 0 0, .slice none 0 0, .slice none 0 0]).toArray⟩),
 (32, ⟨.int .i64, 1, 8, .int .i64 0⟩),
 (38, ⟨.slice 41, 1, 24, .slice none 0 0⟩),
 (41, ⟨.struct [(3, 0), (3, 1)], 2, 16, .agg ([.int .i64 0, .int .i64 0]).toArray⟩),
 (62, ⟨.struct [(41, 0), (9, 2), (3, 3)], 4, 40, .agg ([.int .i64 0, .int .i64 0, .string ByteArray.empty, .int .i64 0]).toArray⟩),
 (79, ⟨.int .u64, 1, 8, .int .u64 0⟩),
 (91, ⟨.struct [(9, 0), (26, 1)], 3, 64, .agg ([.string ByteArray.empty, .slice none 0 0, .slice none 0 0]).toArray⟩),
 (110, ⟨.map 41 62, 1, 8, .map none⟩),
 (116, ⟨.slice 26, 1, 24, .slice none 0 0⟩),
 (127, ⟨.struct [(3, 0), (3, 1), (3, 2)], 3, 24, .agg ([.int .i64 0, .int .i64 0, .int .i64 0]).toArray⟩),
 (137, ⟨.ptr 151, 1, 8, .pointer none⟩),
 (142, ⟨.func, 1, 8, .nilFunc⟩),
 (148, ⟨.func, 1, 8, .nilFunc⟩),
 (149, ⟨.slice 179, 1, 24, .slice none 0 0⟩),
 (151, ⟨.arr 16 149, 16, 384, .agg ([.slice none 0 0, .slice none 0 0, .slice none 0 0, .slice none 0 0, .slice none 0 0, .slice none 0 0, .slice none 0 0, .slice none 0 0, .slice none 0 0, .slice none 0 0, .slice none 0 0, .slice none 0 0, .slice none 0 0, .slice none 0 0, .slice none 0 0, .slice none 0 0]).toArray⟩),
 (164, ⟨.func, 1, 8, .nilFunc⟩),
 (166, ⟨.arr 16 23, 16, 384, .agg ([.slice none 0 0, .slice none 0 0, .slice none 0 0, .slice none 0 0, .slice none 0 0, .slice none 0 0, .slice none 0 0, .slice none 0 0, .slice none 0 0, .slice none 0 0, .slice none 0 0, .slice none 0 0, .slice none 0 0, .slice none 0 0, .slice none 0 0, .slice none 0 0]).toArray⟩),
 (168, ⟨.struct [(166, 0)], 16, 384, .agg ([.slice none 0 0, .slice none 0 0, .slice none 0 0, .slice none 0 0, .slice none 0 0, .slice none 0 0, .slice none 0 0, .slice none 0 0, .slice none 0 0, .slice none 0 0, .slice none 0 0, .slice none 0 0, .slice none 0 0, .slice none 0 0, .slice none 0 0, .slice none 0 0]).toArray⟩),
 (175, ⟨.slice 27, 1, 24, .slice none 0 0⟩),
 (179, ⟨.struct [(3, 0), (3, 1)], 2, 16, .agg ([.int .i64 0, .int .i64 0]).toArray⟩),
 (186, ⟨.func, 1, 8, .nilFunc⟩),
 (194, ⟨.func, 1, 8, .nilFunc⟩),
 (204, ⟨.int .u64, 1, 8, .int .u64 0⟩),
 (212, ⟨.int .i64, 1, 8, .int .i64 0⟩),
 (220, ⟨.int .u32, 1, 4, .int .u32 0⟩),
 (223, ⟨.slice 149, 1, 24, .slice none 0 0⟩),
 (225, ⟨.func, 1, 8, .nilFunc⟩),
 (247, ⟨.arr 0 16, 0, 0, .agg ([]).toArray⟩),
 (249, ⟨.struct [(247, 0)], 0, 0, .agg ([]).toArray⟩)]
def TE0 (t : TypeId) : Option TyI := tyOf teL t
theorem teL_ok : q45 Tryz.prog (tyOf teL) := tyOk_of (by kernel_rfl) (by kernel_rfl)
theorem TE_0 : TE0 0 = some ⟨.other, 1, 0, .tuple ([]).toArray⟩ := rfl
theorem TE_3 : TE0 3 = some ⟨.int .i64, 1, 8, .int .i64 0⟩ := rfl
theorem TE_4 : TE0 4 = some ⟨.bool, 1, 1, .bool false⟩ := rfl
theorem TE_5 : TE0 5 = some ⟨.int .u8, 1, 1, .int .u8 0⟩ := rfl
theorem TE_9 : TE0 9 = some ⟨.str, 1, 16, .string ByteArray.empty⟩ := rfl
theorem TE_16 : TE0 16 = some ⟨.ptr 249, 1, 8, .pointer none⟩ := rfl
theorem TE_20 : TE0 20 = some ⟨.iface, 1, 16, .nilIface⟩ := rfl
theorem TE_22 : TE0 22 = some ⟨.slice 62, 1, 24, .slice none 0 0⟩ := rfl
theorem TE_23 : TE0 23 = some ⟨.slice 3, 1, 24, .slice none 0 0⟩ := rfl
theorem TE_24 : TE0 24 = some ⟨.slice 127, 1, 24, .slice none 0 0⟩ := rfl
theorem TE_26 : TE0 26 = some ⟨.struct [(23, 0), (24, 1)], 2, 48, .agg ([.slice none 0 0, .slice none 0 0]).toArray⟩ := rfl
theorem TE_27 : TE0 27 = some ⟨.slice 91, 1, 24, .slice none 0 0⟩ := rfl
theorem TE_29 : TE0 29 = some ⟨.struct [(22, 0), (26, 1), (27, 3)], 4, 96, .agg ([.slice none 0 0, .slice none 0 0, .slice none 0 0, .slice none 0 0]).toArray⟩ := rfl
theorem TE_31 : TE0 31 = some ⟨.struct [(22, 0), (26, 1), (27, 3)], 4, 96, .agg ([.slice none 0 0, .slice none 0 0, .slice none 0 0, .slice none 0 0]).toArray⟩ := rfl
theorem TE_32 : TE0 32 = some ⟨.int .i64, 1, 8, .int .i64 0⟩ := rfl
theorem TE_38 : TE0 38 = some ⟨.slice 41, 1, 24, .slice none 0 0⟩ := rfl
theorem TE_41 : TE0 41 = some ⟨.struct [(3, 0), (3, 1)], 2, 16, .agg ([.int .i64 0, .int .i64 0]).toArray⟩ := rfl
theorem TE_62 : TE0 62 = some ⟨.struct [(41, 0), (9, 2), (3, 3)], 4, 40, .agg ([.int .i64 0, .int .i64 0, .string ByteArray.empty, .int .i64 0]).toArray⟩ := rfl
theorem TE_79 : TE0 79 = some ⟨.int .u64, 1, 8, .int .u64 0⟩ := rfl
theorem TE_91 : TE0 91 = some ⟨.struct [(9, 0), (26, 1)], 3, 64, .agg ([.string ByteArray.empty, .slice none 0 0, .slice none 0 0]).toArray⟩ := rfl
theorem TE_110 : TE0 110 = some ⟨.map 41 62, 1, 8, .map none⟩ := rfl
theorem zlr : TE0 116 = some ⟨.slice 26, 1, 24, .slice none 0 0⟩ := rfl
theorem zlq : TE0 127 = some ⟨.struct [(3, 0), (3, 1), (3, 2)], 3, 24, .agg ([.int .i64 0, .int .i64 0, .int .i64 0]).toArray⟩ := rfl
theorem TE_137 : TE0 137 = some ⟨.ptr 151, 1, 8, .pointer none⟩ := rfl
theorem TE_142 : TE0 142 = some ⟨.func, 1, 8, .nilFunc⟩ := rfl
theorem TE_148 : TE0 148 = some ⟨.func, 1, 8, .nilFunc⟩ := rfl
theorem TE_149 : TE0 149 = some ⟨.slice 179, 1, 24, .slice none 0 0⟩ := rfl
theorem TE_151 : TE0 151 = some ⟨.arr 16 149, 16, 384, .agg ([.slice none 0 0, .slice none 0 0, .slice none 0 0, .slice none 0 0, .slice none 0 0, .slice none 0 0, .slice none 0 0, .slice none 0 0, .slice none 0 0, .slice none 0 0, .slice none 0 0, .slice none 0 0, .slice none 0 0, .slice none 0 0, .slice none 0 0, .slice none 0 0]).toArray⟩ := rfl
theorem TE_164 : TE0 164 = some ⟨.func, 1, 8, .nilFunc⟩ := rfl
theorem zlp : TE0 166 = some ⟨.arr 16 23, 16, 384, .agg ([.slice none 0 0, .slice none 0 0, .slice none 0 0, .slice none 0 0, .slice none 0 0, .slice none 0 0, .slice none 0 0, .slice none 0 0, .slice none 0 0, .slice none 0 0, .slice none 0 0, .slice none 0 0, .slice none 0 0, .slice none 0 0, .slice none 0 0, .slice none 0 0]).toArray⟩ := rfl
theorem z89 : TE0 168 = some ⟨.struct [(166, 0)], 16, 384, .agg ([.slice none 0 0, .slice none 0 0, .slice none 0 0, .slice none 0 0, .slice none 0 0, .slice none 0 0, .slice none 0 0, .slice none 0 0, .slice none 0 0, .slice none 0 0, .slice none 0 0, .slice none 0 0, .slice none 0 0, .slice none 0 0, .slice none 0 0, .slice none 0 0]).toArray⟩ := rfl
theorem TE_175 : TE0 175 = some ⟨.slice 27, 1, 24, .slice none 0 0⟩ := rfl
theorem TE_179 : TE0 179 = some ⟨.struct [(3, 0), (3, 1)], 2, 16, .agg ([.int .i64 0, .int .i64 0]).toArray⟩ := rfl
theorem TE_186 : TE0 186 = some ⟨.func, 1, 8, .nilFunc⟩ := rfl
theorem TE_194 : TE0 194 = some ⟨.func, 1, 8, .nilFunc⟩ := rfl
theorem TE_204 : TE0 204 = some ⟨.int .u64, 1, 8, .int .u64 0⟩ := rfl
theorem TE_212 : TE0 212 = some ⟨.int .i64, 1, 8, .int .i64 0⟩ := rfl
theorem TE_220 : TE0 220 = some ⟨.int .u32, 1, 4, .int .u32 0⟩ := rfl
theorem TE_223 : TE0 223 = some ⟨.slice 149, 1, 24, .slice none 0 0⟩ := rfl
theorem TE_225 : TE0 225 = some ⟨.func, 1, 8, .nilFunc⟩ := rfl
theorem zlo : TE0 247 = some ⟨.arr 0 16, 0, 0, .agg ([]).toArray⟩ := rfl
theorem zln : TE0 249 = some ⟨.struct [(247, 0)], 0, 0, .agg ([]).toArray⟩ := rfl
def Bt := (aI (aI (aI (aI (aI TE_0 TE_3) (aI TE_4 (aI TE_5 TE_9))) (aI (aI TE_16 TE_20) (aI TE_22 (aI TE_23 TE_24)))) (aI (aI (aI TE_26 TE_27) (aI TE_29 (aI TE_31 TE_32))) (aI (aI TE_38 (aI TE_41 TE_62)) (aI TE_79 (aI TE_91 TE_110))))) (aI (aI (aI (aI zlr zlq) (aI TE_137 (aI TE_142 TE_148))) (aI (aI TE_149 TE_151) (aI TE_164 (aI zlp z89)))) (aI (aI (aI TE_175 TE_179) (aI TE_186 (aI TE_194 TE_204))) (aI (aI TE_212 (aI TE_220 TE_223)) (aI TE_225 (aI zlo zln))))))

def eqL : List Nat := [3, 4, 9, 41, 32, 127, 212, 62, 179, 5, 79, 21, 204]
def EQ0 (t : TypeId) : Bool := eqL.contains t
theorem hm0 : Tryz.prog.follows .mixedOrders = true := by kernel_rfl
theorem hE0 : ∀ t, EQ0 t = true → EqOk Tryz.prog t := eqOk_of (by kernel_rfl)
def En (P : Program) (h : P = Tryz.prog) : Env := ⟨P, TE0, EQ0, h ▸ hm0, h ▸ teL_ok, h ▸ hE0⟩
theorem En_P (P : Program) (h : P = Tryz.prog) : (En P h).P = P := rfl
theorem qba (P : Program) (h : P = Tryz.prog) : (En P h).TE = TE0 := rfl
theorem qhw (P : Program) (h : P = Tryz.prog) : (En P h).EQ = EQ0 := rfl

section
theorem bqs : ((true == true) = true) ∧ ((false == false) = true) ∧ ((true == false) = false) ∧ ((false == true) = false) := ⟨rfl, rfl, rfl, rfl⟩
class Nx (B : Prop) (A : outParam Prop) : Prop where
 it : A → B
class Ny (C : Prop) (A B : outParam Prop) : Prop where
 it : A → B → C
section
variable {E : Env} {n : Nat} {Q Q' : Ex → AS → Prop} {k : Kont} {s s2 : AS} {x y : SC} {d : Bool} {RK : Option (List Nat × (Nat → Bool))} {A B I : Prop} {σ : Type} {S : σ → AS} {ok : σ → Prop} {id : Nat} {l : List AVal} {b c : Bool}
instance : Nx (q0c E d RK (KQ E n Q k) [] s) (Fin E n Q k .normal s) := ⟨awp_nilK⟩
instance : Nx (Run E n Q (.seq x y) k s) (Run E n Q x (.seq y k) s) := ⟨Run.seq⟩
instance : Nx (Fin E n Q (.seq y k) .normal s) (Run E n Q y k s) := ⟨Fin.seq⟩
instance : Nx (Run E n Q .skip k s) (Fin E n Q k .normal s) := ⟨Run.skip⟩
instance : Nx (Run E n Q .ret k s) (Fin E n Q k .ret s) := ⟨Run.ret⟩
instance : Nx (Run E n Q (.exit id) k s) (Fin E n Q k (.exit id) s) := ⟨Run.exit⟩
instance : Nx (Run E n Q (.block id x) k s) (Run E n Q x (.block id k) s) := ⟨Run.block⟩
instance : Nx (Fin E n Q (.seq y k) .ret s) (Fin E n Q k .ret s) := ⟨Fin.seq_ret⟩
instance : Nx (Fin E n Q (.seq y k) (.exit id) s) (Fin E n Q k (.exit id) s) := ⟨Fin.seq_exit⟩
instance : Nx (Fin E n Q (.block id k) .normal s) (Fin E n Q k .normal s) := ⟨Fin.block⟩
instance : Nx (Fin E n Q (.block id k) .ret s) (Fin E n Q k .ret s) := ⟨Fin.block_ret⟩
instance : Nx (Fin E n Q (.block id k) (.exit id) s) (Fin E n Q k .normal s) := ⟨Fin.block_exit⟩
instance : Nx (Fin E n (za9 n s2 (KQ E n Q k)) .done (.exit id) s) (Fin E n Q k (.exit id) s) := ⟨Fin.out⟩
instance : Nx (Fin E n (za9 n s2 (KQ E n Q k)) .done .ret s) (Fin E n Q k .ret s) := ⟨Fin.out_ret⟩
instance : Nx (Fin E n (Ex.then (fun _ => False) (KQ E n Q k)) .done (.exit id) s) (Fin E n Q k (.exit id) s) := ⟨Fin.last⟩
instance : Nx (Fin E n (qri n S ok (KQ E n Q k)) .done (.exit id) s) (Fin E n Q k (.exit id) s) := ⟨Fin.outW⟩
instance : Nx (Fin E n (qri n S ok (KQ E n Q k)) .done .ret s) (Fin E n Q k .ret s) := ⟨Fin.outW_ret⟩
instance : Nx (q35 (.tup l) b A B) B := ⟨g_tup⟩
instance : Nx (q35 (.bool true) true A B) A := ⟨g_tt⟩
instance : Nx (q35 (.bool false) false A B) A := ⟨g_ff⟩
instance : Nx (q35 (.bool true) false A B) B := ⟨g_tf⟩
instance : Nx (q35 (.bool false) true A B) B := ⟨g_ft⟩
instance : Nx (qer (.bool true) A B) A := ⟨c_t⟩
instance : Nx (qer (.bool false) A B) B := ⟨c_f⟩
instance : Ny (q35 (.bool c) true A B) (Hyp (c = true) A) (Hyp (c = false) B) := ⟨g_splitT⟩
instance : Ny (q35 (.bool c) false A B) (Hyp (c = true) B) (Hyp (c = false) A) := ⟨g_splitF⟩
instance : Ny (qer (.bool c) A B) (Hyp (c = true) A) (Hyp (c = false) B) := ⟨c_split⟩
theorem Nx.of [h : Nx B A] (a : A) : B := h.it a
theorem Ny.of {C : Prop} [h : Ny C A B] (a : A) (b : B) : C := h.it a b
theorem Run.mid (S : σ → AS) (I : σ → Prop) (h1 : Run E n (qri n S I (KQ E n Q k)) x .done s) (h2 : ∀ z, I z → Run E n Q y k (S z)) : Run E n Q (.seq x y) k s := by
 refine Run.seq (AW.mono h1 fun e s' h => ?_)
 cases e with
 | normal => obtain ⟨z, hz, hw⟩ := h; exact Run.wk hw (h2 z hz)
 | _ => exact h
end
def GV (E : Env) (d : Bool) (RK : Option (List Nat × (Nat → Bool))) (Q : Ex → AS → Prop) (dst : Option Tmp) (op : Op) (r : List SOp) (T : q1x) (M : Mem) : Prop := q0c E d RK Q (⟨dst, op, none⟩ :: r) ⟨T, M⟩
def GG (E : Env) (d : Bool) (RK : Option (List Nat × (Nat → Bool))) (Q : Ex → AS → Prop) (u t : Tmp) (b : Bool) (op : Op) (r : List SOp) (T : q1x) (M : Mem) : Prop := q0c E d RK Q (⟨some u, op, some (some t, b)⟩ :: r) ⟨T, M⟩
def GG0 (E : Env) (d : Bool) (RK : Option (List Nat × (Nat → Bool))) (Q : Ex → AS → Prop) (t : Tmp) (b : Bool) (op : Op) (r : List SOp) (T : q1x) (M : Mem) : Prop := q0c E d RK Q (⟨none, op, some (some t, b)⟩ :: r) ⟨T, M⟩
def GC (E : Env) (n : Nat) (Q : Ex → AS → Prop) (o : Operand) (x y : SC) (K : Kont) (s : AS) : Prop := Run E n Q (.cond o x y) K s
def GO (E : Env) (n : Nat) (Q : Ex → AS → Prop) (d : Bool) (l : List SOp) (L : List Nat) (K : Kont) (T : q1x) (M : Mem) : Prop := Run E n Q (.ops d l) K ⟨T, M⟩
def GW (E : Env) (n : Nat) (Q : Ex → AS → Prop) (ws : List Nat) (l : List SOp) (L : List Nat) (K : Kont) (T : q1x) (M : Mem) : Prop := Run E n Q (.opsW ws l) K ⟨T, M⟩
def GW2 (E : Env) (n : Nat) (Q : Ex → AS → Prop) (ws : List Nat) (l : List SOp) (L : List Nat) (F : Nat → Bool) (K : Kont) (T : q1x) (M : Mem) : Prop := Run E n Q (.opsW ws l) K ⟨T, M⟩
def GX (E : Env) (n : Nat) (Q : Ex → AS → Prop) (id id' : Nat) (k : Kont) (s : AS) : Prop := Fin E n Q (.block id k) (.exit id') s
section
variable {E : Env} {d : Bool} {RK : Option (List Nat × (Nat → Bool))} {Q : Ex → AS → Prop} {r : List SOp} {T : q1x} {M : Mem} {dst : Option Tmp} {op : Op} {n : Nat} {K : Kont} {x y : SC} {s : AS} {l : List SOp} {id id' : Nat} {u t : Tmp} {b : Bool} {o : Operand}
theorem toV (h : GV E d RK Q dst op r T M) : q0c E d RK Q (⟨dst, op, none⟩ :: r) ⟨T, M⟩ := h
theorem toG (h : GG E d RK Q u t b op r T M) : q0c E d RK Q (⟨some u, op, some (some t, b)⟩ :: r) ⟨T, M⟩ := h
theorem toG0 (h : GG0 E d RK Q t b op r T M) : q0c E d RK Q (⟨none, op, some (some t, b)⟩ :: r) ⟨T, M⟩ := h
theorem toC (h : GC E n Q o x y K s) : Run E n Q (.cond o x y) K s := h
theorem toO [i : Live l] (h : GO E n Q d l (Live.L l) K T M) : Run E n Q (.ops d l) K ⟨T, M⟩ := h
theorem toW {ws : List Nat} [i : Live l] (h : GW E n Q ws l (Live.L l) K T M) : Run E n Q (.opsW ws l) K ⟨T, M⟩ := h
theorem toW2 {ws : List Nat} [i : Live l] [j : Rd l] (h : GW2 E n Q ws l (Live.L l) (Rd.K l) K T M) : Run E n Q (.opsW ws l) K ⟨T, M⟩ := h
theorem toX (h : GX E n Q id id' K s) : Fin E n Q (.block id K) (.exit id') s := h
end
section
variable {E : Env} {d : Bool} {RK : Option (List Nat × (Nat → Bool))} {Q : Ex → AS → Prop} {r : List SOp} {T : q1x} {M : Mem} {dst : Option Tmp} {op : Op} {n : Nat} {K : Kont} {x y : SC} {s : AS}
theorem stV {v : AVal} {ups : List (Nat × ABlk)} {s' : AS} (hp : q8w op = true := by with_unfolding_all rfl)
 (h : opS E.TE E.EQ ⟨T, M⟩ dst op = some (v, ups) := by (simp (disch := omega) only [↓Bp, Bq, qba, qhw, En_P, q78, q7p, qb7, q1i, q7m, z7y, q7v, q7g, zax, qp0, qqe, zab, zac, qod, unA, q2s, mmA, q5s, q26, qhy, q1y, q5y, q6b, q1o, q8n, TD.atomic, qi3, TD.isAgg, AVal.known, AVal.cells, AVal.one, AVal.plain, AVal.withCells, q6c, AVal.at, AVal.atR, q6a, qr9, cst, Go.Value.cells, reduceCtorEq, ↓reduceIte, Nat.reduceAdd, Nat.reduceMul, Nat.reduceLeDiff, Nat.reduceEqDiff, Nat.reduceBEq, Int.reduceLE, Int.reduceLT, Int.reduceToNat, Nat.reduceLT, Nat.reduceSub, Int.reduceNeg, Int.reduceEq, Bt, bqs, eqA, z9n, EQ0, eqL, kill, hF]; first | done | with_unfolding_all exact rfl))
 (hc : z9r d RK dst op T ups = true := by first | with_reducible exact zkz | with_unfolding_all rfl)
 (hs : AS.put ⟨T, ap M ups⟩ dst v = s' := by with_reducible first | exact put_v | exact put_k | exact put_s | exact put_n | exact put_k2 | exact put_s2)
 (k : q0c E d RK Q r s') : GV E d RK Q dst op r T M := dv hp h hc hs k
theorem stG {t u : Tmp} {b : Bool} {x : AVal} (h : T t = x := by (simp (disch := omega) only [↓Bp, Bq, qba, qhw, En_P, q78, q7p, qb7, q1i, q7m, z7y, q7v, q7g, zax, qp0, qqe, zab, zac, qod, unA, q2s, mmA, q5s, q26, qhy, q1y, q5y, q6b, q1o, q8n, TD.atomic, qi3, TD.isAgg, AVal.known, AVal.cells, AVal.one, AVal.plain, AVal.withCells, q6c, AVal.at, AVal.atR, q6a, qr9, cst, Go.Value.cells, reduceCtorEq, ↓reduceIte, Nat.reduceAdd, Nat.reduceMul, Nat.reduceLeDiff, Nat.reduceEqDiff, Nat.reduceBEq, Int.reduceLE, Int.reduceLT, Int.reduceToNat, Nat.reduceLT, Nat.reduceSub, Int.reduceNeg, Int.reduceEq, Bt, bqs, eqA, z9n, EQ0, eqL, kill, hF]; first | done | with_unfolding_all exact rfl))
 (k : q35 x b (q0c E d RK Q (⟨some u, op, none⟩ :: r) ⟨T, M⟩) (q0c E d RK Q r ⟨upd T u (.tup []), M⟩)) : GG E d RK Q u t b op r T M := dg h k
theorem stG0 {t : Tmp} {b : Bool} {x : AVal} (h : T t = x := by (simp (disch := omega) only [↓Bp, Bq, qba, qhw, En_P, q78, q7p, qb7, q1i, q7m, z7y, q7v, q7g, zax, qp0, qqe, zab, zac, qod, unA, q2s, mmA, q5s, q26, qhy, q1y, q5y, q6b, q1o, q8n, TD.atomic, qi3, TD.isAgg, AVal.known, AVal.cells, AVal.one, AVal.plain, AVal.withCells, q6c, AVal.at, AVal.atR, q6a, qr9, cst, Go.Value.cells, reduceCtorEq, ↓reduceIte, Nat.reduceAdd, Nat.reduceMul, Nat.reduceLeDiff, Nat.reduceEqDiff, Nat.reduceBEq, Int.reduceLE, Int.reduceLT, Int.reduceToNat, Nat.reduceLT, Nat.reduceSub, Int.reduceNeg, Int.reduceEq, Bt, bqs, eqA, z9n, EQ0, eqL, kill, hF]; first | done | with_unfolding_all exact rfl))
 (k : q35 x b (q0c E d RK Q (⟨none, op, none⟩ :: r) ⟨T, M⟩) (q0c E d RK Q r ⟨T, M⟩)) : GG0 E d RK Q t b op r T M := dg0 h k
theorem stC {o : Operand} {v : AVal} (h : ev s.T o = v := by (simp (disch := omega) only [↓Bp, Bq, qba, qhw, En_P, q78, q7p, qb7, q1i, q7m, z7y, q7v, q7g, zax, qp0, qqe, zab, zac, qod, unA, q2s, mmA, q5s, q26, qhy, q1y, q5y, q6b, q1o, q8n, TD.atomic, qi3, TD.isAgg, AVal.known, AVal.cells, AVal.one, AVal.plain, AVal.withCells, q6c, AVal.at, AVal.atR, q6a, qr9, cst, Go.Value.cells, reduceCtorEq, ↓reduceIte, Nat.reduceAdd, Nat.reduceMul, Nat.reduceLeDiff, Nat.reduceEqDiff, Nat.reduceBEq, Int.reduceLE, Int.reduceLT, Int.reduceToNat, Nat.reduceLT, Nat.reduceSub, Int.reduceNeg, Int.reduceEq, Bt, bqs, eqA, z9n, EQ0, eqL, kill, hF]; first | done | with_unfolding_all exact rfl))
 (k : qer v (Run E n Q x K s) (Run E n Q y K s)) : GC E n Q o x y K s := dc h k
theorem stO {T' : List (Nat × AVal)} {M' : Mem} {l : List SOp} {L : List Nat} {o : SOp} (hl : l = o :: r := by with_unfolding_all rfl)
 (hT : zb6 L T = T' := by (simp only [Live.L, ↓Br, ↓reduceIte, Nat.reduceEqDiff, Option.getD]; first | done | with_unfolding_all exact rfl))
 (hM : M = M' := by (first | (simp only [qq0]; with_unfolding_all exact rfl) | with_unfolding_all exact rfl))
 (k : q0c E d none (KQ E n Q K) (o :: r) ⟨tms T', M'⟩) : GO E n Q d l L K T M := Run.opsL0 hl L hT hM k
theorem stW (F : Nat → Bool) {ws : List Nat} {T' : List (Nat × AVal)} {M' : Mem} {l : List SOp} {L : List Nat} {o : SOp} (hl : l = o :: r := by with_unfolding_all rfl)
 (hT : zb6 L T = T' := by (simp only [Live.L, ↓Br, ↓reduceIte, Nat.reduceEqDiff, Option.getD]; first | done | with_unfolding_all exact rfl))
 (hM : M = M' := by (first | (simp only [qq0]; with_unfolding_all exact rfl) | with_unfolding_all exact rfl))
 (k : q0c E true (some (ws, F)) (KQ E n Q K) (o :: r) ⟨tms T', M'⟩) : GW E n Q ws l L K T M := Run.opsWL0 F hl L hT hM k
theorem stW2 {F : Nat → Bool} {F2 : Nat → Bool} {ws : List Nat} {T' : List (Nat × AVal)} {M' : Mem} {l : List SOp} {L : List Nat} {o : SOp} (hl : l = o :: r := by with_unfolding_all rfl)
 (hT : zb6 L T = T' := by (simp only [Live.L, ↓Br, ↓reduceIte, Nat.reduceEqDiff, Option.getD]; first | done | with_unfolding_all exact rfl))
 (hM : M = M' := by (first | (simp only [qq0]; with_unfolding_all exact rfl) | with_unfolding_all exact rfl))
 (hF2 : F = F2 := by (simp only [Rd.K]; with_unfolding_all exact rfl)) (k : q0c E true (some (ws, F2)) (KQ E n Q K) (o :: r) ⟨tms T', M'⟩) : GW2 E n Q ws l L F K T M := Run.opsWL0 F2 hl L hT hM k
theorem stX {Q : Ex → AS → Prop} {z : Kont} {id id' : Nat} (hne : (id' == id) = false := by with_unfolding_all rfl) (k : Fin E n Q z (.exit id') s) : GX E n Q id id' z s := Fin.block_other hne k
theorem q00 {t : Tmp} {x : Operand} {args : Array Operand} {ts : Array TypeId} {f : FuncId} {caps : List AVal} (l : List AVal) {v : AVal} (hf : ev T x = .fn f caps := by with_unfolding_all rfl)
 (hl : (evs T args.toList ++ caps).map (fz (fun _ => false) M) = l := by first | with_unfolding_all rfl | (simp [evs, ev, cst, fz, fzc, upd, tms, hL]; done)) (hs : q0j l = true := by first | (simp only [q0j, AVal.stb, q02, q06, q0z, q03, q0r, q0b, q14, Bool.and_true, Bool.true_and, Bool.and_self]; done) | (simp only [q0j, AVal.stb, q02, q06, q0z, q03, q0r, q0b, q14, Bool.and_true, Bool.true_and, Bool.and_self, hS]; done)) (he : Ev E.P f l (.ret v))
 (k : q0c E d RK Q r ⟨upd T t v, M⟩) : q0c E d RK Q (⟨some t, .call ⟨.value x, args, ts⟩, none⟩ :: r) ⟨T, M⟩ := q2t hf hl hs he k
theorem qsg {t : Tmp} {x : Operand} {args : Array Operand} {ts : Array TypeId} (K : Nat → Bool) {f : FuncId} {caps : List AVal} (l : List AVal) {v : AVal} (hf : ev T x = .fn f caps := by with_unfolding_all rfl)
 (hl : (evs T args.toList ++ caps).map (fz K M) = l := by first | with_unfolding_all rfl | simp [evs, ev, fz, fzc, upd, tms, mms, kill]) (hs : q0j l = true := by first | (simp only [q0j, AVal.stb, q02, q06, q0z, q03, q0r, q0b, q14, Bool.and_true, Bool.true_and, Bool.and_self]; done) | (simp only [q0j, AVal.stb, q02, q06, q0z, q03, q0r, q0b, q14, Bool.and_true, Bool.true_and, Bool.and_self, hS]; done)) (he : Ev E.P f l (.ret v))
 (hv : v.flt = false := by with_unfolding_all rfl) (k : q0c E false none Q r ⟨upd T t v, kill K M⟩) : q0c E false none Q (⟨some t, .call ⟨.value x, args, ts⟩, none⟩ :: r) ⟨T, M⟩ := qhu K hf hl hs he hv k
theorem stNew {t : Tmp} {x : Operand} {args : Array Operand} {ts : Array TypeId} {f : FuncId} {caps : List AVal} (l : List AVal) {cs : List AVal} (hf : ev T x = .fn f caps := by with_unfolding_all rfl)
 (hl : (evs T args.toList ++ caps).map (fz (fun _ => false) M) = l := by first | with_unfolding_all rfl | (simp [evs, ev, cst, fz, fzc, upd, tms, hL]; done)) (hs : q0j l = true := by first | (simp only [q0j, AVal.stb, q02, q06, q0z, q03, q0r, q0b, q14, Bool.and_true, Bool.true_and, Bool.and_self]; done) | (simp only [q0j, AVal.stb, q02, q06, q0z, q03, q0r, q0b, q14, Bool.and_true, Bool.true_and, Bool.and_self, hS]; done)) (he : EvNew E.P f l cs)
 (hM : M t = none := by with_unfolding_all rfl) (k : q0c E d none Q r ⟨upd T t (.ptr t 0), upd M t (some (.cells cs))⟩) : q0c E d none Q (⟨some t, .call ⟨.value x, args, ts⟩, none⟩ :: r) ⟨T, M⟩ := awp_new hf hl hs he hM k
theorem stFresh {t : Tmp} {x : Operand} {args : Array Operand} {ts : Array TypeId} {f : FuncId} {caps : List AVal} (l : List AVal) {sz : Nat} {xs : List AVal} (hf : ev T x = .fn f caps := by with_unfolding_all rfl)
 (hl : (evs T args.toList ++ caps).map (fz (fun _ => false) M) = l := by first | with_unfolding_all rfl | (simp [evs, ev, cst, fz, fzc, upd, tms, hL]; done)) (hs : q0j l = true := by first | (simp only [q0j, AVal.stb, q02, q06, q0z, q03, q0r, q0b, q14, Bool.and_true, Bool.true_and, Bool.and_self]; done) | (simp only [q0j, AVal.stb, q02, q06, q0z, q03, q0r, q0b, q14, Bool.and_true, Bool.true_and, Bool.and_self, hS]; done)) (he : EvFresh E.P f l sz xs)
 (hM : M t = none := by with_unfolding_all rfl) (k : q0c E d none Q r ⟨upd T t (.os t 0), upd M t (some (.arr 0 sz xs))⟩) : q0c E d none Q (⟨some t, .call ⟨.value x, args, ts⟩, none⟩ :: r) ⟨T, M⟩ := zlj hf hl hs he hM k
theorem q0h {l : List (Nat × AVal)} {m : List (Nat × ABlk)}
 (h : allT T l := by repeat (first | exact trivial | refine ⟨by with_unfolding_all rfl, ?_⟩ | (refine ⟨by simp [↓q6t, ↓q3v, ↓q58, ↓NoM', hW], ?_⟩)))
 (hm : allM M m := by repeat (first | exact trivial | refine ⟨by with_unfolding_all rfl, ?_⟩ | (refine ⟨by simp [↓q6t, ↓q3v, ↓q58, ↓NoM', hW], ?_⟩)))
 (hn : qpo (qqd m) l := by repeat (first | exact trivial | (refine ⟨?_, ?_⟩; focus (first | with_unfolding_all rfl | (apply q1d; simp only [q0j, AVal.stb, q02, q06, q0z, q03, q0r, q0b, q14, Bool.and_true, Bool.true_and, Bool.and_self, hW]; done)))))
 (hb : qre (qqd m) m := by repeat (first | exact trivial | (refine ⟨?_, ?_⟩; focus (first | with_unfolding_all rfl | (apply qfv; simp only [q0j, AVal.stb, q02, q06, q0z, q03, q0r, q0b, q14, Bool.and_true, Bool.true_and, Bool.and_self, hW]; done) | exact q2n _ _ | exact qhm _ _ | exact qho _ _ | (apply q9x; simp only [q0j, AVal.stb, q02, q06, q0z, q03, q0r, q0b, q14, Bool.and_true, Bool.true_and, Bool.and_self, hW]; done) | (apply qhq; simp only [qhr, z7u, List.all_cons, List.all_nil, q0j, AVal.stb, q02, q06, q0z, q03, q0r, q0b, q14, Bool.and_true, Bool.true_and, Bool.and_self, hW]; done) | (simp [ABlk.no, AVal.noC, AVal.no, AVal.stb, q0j, q02, q06, q0z, q03, q0r, q0b, q14, hW]; done))))) :
 Wk n ⟨T, M⟩ ⟨tms l, mms m⟩ := Wk.toL l m h hm hn hb
theorem qg8 {t : Tmp} (x : AVal) (h : fz q5q M (T t) = x := by first | with_unfolding_all rfl | simp [fz, fzc, q5q, upd, tms, mms]) (hs : x.stb = true := by first | with_unfolding_all rfl | simp only [q0j, AVal.stb, q02, q06, q0z, q03, q0r, q0b, q14, Bool.and_true, Bool.true_and, Bool.and_self]) :
 Fin E n (FnQ E.TE [.tmp t] (.ret x)) .done .ret ⟨T, M⟩ := Fin.tmp' h hs
theorem go1 {A G : Prop} (h : A → G := by (intro hK; first | ((with_reducible refine Nx.of ?_); exact hK) | ((with_reducible apply toV); refine stV (k:=?_); exact hK) | ((with_reducible apply toG); refine stG (k:=?_); exact hK) | ((with_reducible apply toG0); refine stG0 (k:=?_); exact hK) | ((with_reducible apply toC); refine stC (k:=?_); exact hK) | ((with_reducible apply toO); refine stO (k:=?_); exact hK) | ((with_reducible apply toX); refine stX (k:=?_); exact hK))) (k : A) : G := h k
theorem go2 {A G : Prop} (h : A → G := by (intro hK; first | ((with_reducible refine Nx.of ?_); exact hK) | ((with_reducible apply toV); refine stV (k:=?_); exact hK) | ((with_reducible apply toG); refine stG (k:=?_); exact hK) | ((with_reducible apply toG0); refine stG0 (k:=?_); exact hK) | ((with_reducible apply toC); refine stC (k:=?_); exact hK) | ((with_reducible apply toO); refine stO (k:=?_); exact hK) | ((with_reducible apply toW2); refine stW2 (k:=?_); exact hK) | ((with_reducible apply toX); refine stX (k:=?_); exact hK))) (k : A) : G := h k
theorem go0 {A G : Prop} (h : A → G := by (intro hK; first | ((with_reducible refine Nx.of ?_); exact hK) | ((with_reducible apply toV); refine stV (k:=?_); exact hK) | ((with_reducible apply toG); refine stG (k:=?_); (with_reducible refine Nx.of ?_); exact hK) | ((with_reducible apply toG0); refine stG0 (k:=?_); (with_reducible refine Nx.of ?_); exact hK) | ((with_reducible apply toC); refine stC (k:=?_); (with_reducible refine Nx.of ?_); exact hK) | ((with_reducible apply toO); refine stO (k:=?_); exact hK) | ((with_reducible apply toX); refine stX (k:=?_); exact hK))) (k : A) : G := h k
end
end
theorem q1j {A G : Prop} (h : A → G := by (intro hQ; (repeat refine go0 (k:=?_)); exact hQ)) (k : A) : G := h k
theorem q01 {A G : Prop} (h : A → G := by (intro hQ; (repeat refine go1 (k:=?_)); (fail_if_success with_reducible refine Ny.of ?_ ?_); (fail_if_success refine Hyp.of ?_); exact hQ)) (k : A) : G := h k
theorem run2 {A G : Prop} (h : A → G := by (intro hQ; (repeat refine go2 (k:=?_)); (fail_if_success with_reducible refine Ny.of ?_ ?_); (fail_if_success refine Hyp.of ?_); exact hQ)) (k : A) : G := h k

def qyc : List SOp := [zO 1 (.box 179 (.tmp 0)),zO 2 (.alloc 179),zO 3 (.assign (.const (.bool false)))]
instance : Live qyc := ⟨[0]⟩
def qyb : List SOp := [zF 4 179 1 0,zL 5 3 4,zO 6 (.call ⟨.builtin .max,#[.tmp 5,.const (.int .i64 1)],#[3,3]⟩),zF 7 179 1 1,zL 8 3 7,zO 9 (.call ⟨.builtin .min,#[.tmp 8,.const (.int .i64 1000000000)],#[3,3]⟩),zF 10 179 1 0,⟨none,.store 3 (.tmp 10) (.tmp 6),none⟩,zF 11 179 1 1,⟨none,.store 3 (.tmp 11) (.tmp 9),none⟩]
instance : Live qyb := ⟨[1,2]⟩
def qgm : List SOp := [zL 12 179 1,zF 13 179 1 0,zL 14 3 13,zF 15 179 1 1,zL 16 3 15,zO 17 (.binOp .leq 3 (.tmp 14) (.tmp 16) 3),⟨none,.store 179 (.tmp 2) (.tmp 12),none⟩,zG 3 17]
instance : Live qgm := ⟨[1,2]⟩
instance : Rd qgm := ⟨fun j => j == 1⟩
def t_k155 : SC :=
 (.seq (.ops false qyc) (.seq (.ops false qyb) (.seq (.opsW [] qgm) .ret)))
theorem it_k155 : FnIs Tryz.prog 155 18 [.cell 2 179, .tmp 3] t_k155 := ⟨Tryz.f155, _, Tryz.func155, rfl, rfl, rfl, rfl, by kernel_rfl⟩

def qut : List SOp := [zO 2 (.box 179 (.tmp 0)),zO 3 (.box 179 (.tmp 1)),zO 4 (.assign (.const (.int .i64 0)))]
instance : Live qut := ⟨[0,1]⟩
def qus : List SOp := [zF 5 179 2 0,zL 6 3 5,zF 7 179 3 0,zL 8 3 7,zO 9 (.binOp .sub 3 (.tmp 6) (.tmp 8) 3),zG 4 9]
instance : Live qus := ⟨[2,3]⟩
def t_k186 : SC :=
 (.seq (.ops false qut) (.seq (.ops false qus) .ret))
theorem it_k186 : FnIs Tryz.prog 186 10 [.tmp 4] t_k186 := ⟨Tryz.f186, _, Tryz.func186, rfl, rfl, rfl, rfl, by kernel_rfl⟩

def qur : List SOp := [zO 3 (.box 179 (.tmp 1)),zO 4 (.assign (.const (.slice none 0 0)))]
instance : Live qur := ⟨[0,1]⟩
def quq : List SOp := [zM 6 0,zO 7 (.call ⟨.builtin .len,#[.tmp 6],#[149]⟩),zG 5 7]
instance : Live quq := ⟨[0,3]⟩
def qup : List SOp := [zM 8 5,zO 9 (.binOp .gtr 3 (.tmp 8) (.const (.int .i64 0)) 3),zM 10 9,⟨some 11,.fieldAddr 179 (.tmp 3) 0,some ((some 10),true)⟩,⟨some 12,.load 3 (.tmp 11),some ((some 10),true)⟩,⟨some 13,.move (.tmp 0),some ((some 10),true)⟩,⟨some 14,.move (.tmp 5),some ((some 10),true)⟩,⟨some 15,.binOp .sub 3 (.tmp 14) (.const (.int .i64 1)) 3,some ((some 10),true)⟩,⟨some 16,.indexAddr 149 (.tmp 13) (.tmp 15),some ((some 10),true)⟩,⟨some 17,.fieldAddr 179 (.tmp 16) 1,some ((some 10),true)⟩,⟨some 18,.load 3 (.tmp 17),some ((some 10),true)⟩,⟨some 19,.binOp .add 3 (.tmp 18) (.const (.int .i64 1)) 3,some ((some 10),true)⟩,⟨some 20,.binOp .leq 3 (.tmp 12) (.tmp 19) 3,some ((some 10),true)⟩,zO 21 (.pick (.tmp 10) (.tmp 20) (.const (.bool false)))]
instance : Live qup := ⟨[0,3,5]⟩
def qun : List SOp := [zM 22 0,zM 23 5,zO 24 (.binOp .sub 3 (.tmp 23) (.const (.int .i64 1)) 3),zM 25 0,zM 26 5,zO 27 (.binOp .sub 3 (.tmp 26) (.const (.int .i64 1)) 3),zI 28 149 25 27,zF 29 179 28 1,zL 30 3 29,zF 31 179 3 1,zL 32 3 31,zO 33 (.call ⟨.builtin .max,#[.tmp 30,.tmp 32],#[3,3]⟩),zI 34 149 22 24,zF 35 179 34 1,⟨none,.store 3 (.tmp 35) (.tmp 33),none⟩]
instance : Live qun := ⟨[0,3,5]⟩
def qum : List SOp := [zM 36 0,zG 4 36]
instance : Live qum := ⟨[0]⟩
def qul : List SOp := [zM 37 0,zL 38 179 3,zO 39 (.buildSlice 149 1 #[(0,.tmp 38)]),zO 40 (.call ⟨.builtin .append,#[.tmp 37,.tmp 39],#[149,149]⟩),zG 4 40]
instance : Live qul := ⟨[0,3]⟩
def t_k187 : SC :=
 (.seq (.ops false qur) (.seq (.seq (.ops false quq) (.seq (.ops true qup) (.cond (.tmp 21) (.seq (.ops true qun) (.seq (.ops false qum) .ret)) .skip))) (.seq (.ops false qul) .ret)))
theorem it_k187 : FnIs Tryz.prog 187 41 [.tmp 4] t_k187 := ⟨Tryz.f187, _, Tryz.func187, rfl, rfl, rfl, rfl, by kernel_rfl⟩

abbrev Rn := Int × Int
def q4h (r : Rn) : AVal := .agg [.int .i64 r.1, .int .i64 r.2]
def q4t (r : Rn) : Rn := (max r.1 1, min r.2 1000000000)
theorem ev_k155 (r : Rn) : Ev (En Tryz.prog rfl).P 155 [q4h r] (.ret (.tup [q4h (q4t r), .bool (decide ((q4t r).1 ≤ (q4t r).2))])) := by
 refine Ev.of_body it_k155 (by simp) (Run.start ?_)
 unfold t_k155 q4h
 (have hF := True.intro; refine q1j (k:=?_); clear hF)
 ((with_reducible apply toW); refine stW (fun j => j == 1) (k:=?_))
 (have hF := True.intro; refine q1j (k:=?_); clear hF)
 exact Fin.all rfl rfl rfl
theorem q3f {x : Int} (h : -9223372036854775808 ≤ x ∧ x ≤ 9223372036854775807) : IntKind.i64.wrap x = x := by
 simp only [IntKind.wrap, IntKind.bits, IntKind.signed]
 simp
 omega
theorem ev_k186 (x y : Rn) (hx : -1000000000000 ≤ x.1 ∧ x.1 ≤ 1000000000000) (hy : -1000000000000 ≤ y.1 ∧ y.1 ≤ 1000000000000) : Ev (En Tryz.prog rfl).P 186 [q4h x, q4h y] (.ret (.int .i64 (x.1 - y.1))) := by
 refine Ev.of_body it_k186 (by simp) (Run.start ?_)
 have hw : IntKind.i64.wrap (x.1 - y.1) = x.1 - y.1 := q3f (by omega)
 unfold t_k186 q4h
 (have hF := @hw; refine q1j (k:=?_); clear hF)
 exact Fin.all rfl rfl rfl
def q07 (l : List Rn) : List AVal := l.map q4h
theorem q0z (r : Rn) : (q4h r).stb = true := rfl
theorem q06 (l : List Rn) : q0j (q07 l) = true := q4e q0z
theorem q0v (l : List Rn) : (q07 l).length = l.length := by simp [q07]
def qef (out : List Rn) (r : Rn) : List Rn :=
 match out.getLast? with
 | some l => if r.1 ≤ l.2 + 1 then out.dropLast ++ [(l.1, max l.2 r.2)] else out ++ [r]
 | none => [r]
theorem z86 (r : Rn) : qef [] r = [r] := rfl
theorem qee (l : List Rn) (x r : Rn) : qef (l ++ [x]) r = if r.1 ≤ x.2 + 1 then l ++ [(x.1, max x.2 r.2)] else l ++ [x] ++ [r] := by
 simp [qef]
theorem ev_k187 (out : List Rn) (r : Rn) (hb : ∀ x ∈ out, -1000000000000 ≤ x.2 ∧ x.2 ≤ 1000000000000) (hl : out.length ≤ 1000000000) :
 EvOwn (En Tryz.prog rfl).P 187 [.undef, q4h r] 0 2 (q07 out) true .undef (q07 (qef out r)) := by
 refine EvOwn.of_body it_k187 (by simp) (Run.start ?_)
 unfold t_k187 q4h qdg
 rcases List.eq_nil_or_concat out with rfl | ⟨l, x, rfl⟩
 ·have e0 : q07 [] = [] := rfl
  rw [e0]
  (have hF := True.intro; refine q1j (k:=?_); clear hF)
  exact Fin.done ⟨_, rfl, rfl, q06 _⟩
 ·simp only [List.concat_eq_append] at *
  have hbx := hb x (by simp)
  rw [qee]
  have hlen : (q07 (l ++ [x])).length = l.length + 1 := by simp [q07]
  have hget : (q07 (l ++ [x]))[l.length]? = some (.agg [.int .i64 x.1, .int .i64 x.2]) := by simp [q07, q4h]
  have hset : ∀ a b, (q07 (l ++ [x])).set l.length (.agg [.int .i64 a, .int .i64 b]) = q07 (l ++ [(a, b)]) := fun a b => by simp [q07, q4h]
  have happ : ∀ a b, q07 (l ++ [x]) ++ [.agg [.int .i64 a, .int .i64 b]] = q07 (l ++ [x] ++ [(a, b)]) := fun a b => by simp [q07, q4h]
  generalize hL : q07 (l ++ [x]) = L at *
  generalize hm : l.length = m at *
  have hm2 : m ≤ 1000000000 := by simp at hl; omega
  have e1 : decide (0 < ((m + 1 : Nat) : Int)) = true := by simp only [decide_eq_true_eq]; omega
  have e2 : IntKind.i64.wrap (((m + 1 : Nat) : Int) - 1) = (m : Int) := by rw [q3f (by omega)]; omega
  have e3 : (0 ≤ (m : Int)) = True := by simp
  have e4 : ((m : Int) < ((m + 1 : Nat) : Int)) = True := by simp only [eq_iff_iff, iff_true]; omega
  have e5 : IntKind.i64.wrap (x.2 + 1) = x.2 + 1 := q3f (by omega)
  have e6 : ((m + 1 + 1) * 16 ≤ 70368744177664) = True := by simp only [eq_iff_iff, iff_true]; omega
  have e7 : (m + 1 + 1 ≤ 4611686018427387904) = True := by simp only [eq_iff_iff, iff_true]; omega
  (have hF := (aI (aI (aI @hlen @e1) (aI @e2 (aI @e3 @e4))) (aI (aI @e5 (aI @e6 @e7)) (aI @hget (aI @hset @happ)))); refine q1j (k:=?_); clear hF)
  refine Run.cond _ rfl (fun hc => ?_) (fun hc => ?_)
  ·simp only [decide_eq_true_eq] at hc
   rw [if_pos hc]
   (have hF := (aI (aI (aI @hlen @e1) (aI @e2 (aI @e3 @e4))) (aI (aI @e5 (aI @e6 @e7)) (aI @hget (aI @hset @happ)))); refine q1j (k:=?_); clear hF)
   exact Fin.done ⟨_, rfl, rfl, q06 _⟩
  ·simp only [decide_eq_false_iff_not] at hc
   rw [if_neg hc]
   (have hF := (aI (aI (aI @hlen @e1) (aI @e2 (aI @e3 @e4))) (aI (aI @e5 (aI @e6 @e7)) (aI @hget (aI @hset @happ)))); refine q1j (k:=?_); clear hF)
   exact Fin.done ⟨_, rfl, rfl, q06 _⟩

def qy8 : List SOp := [zO 2 (.assign (.const (.slice none 0 0)))]
instance : Live qy8 := ⟨[0]⟩
def qy7 : List SOp := [zM 3 0,zO 4 (.binOp .eql 149 (.tmp 3) (.const (.slice none 0 0)) 149)]
instance : Live qy7 := ⟨[0]⟩
def qy6 : List SOp := [zO 2 (.assign (.const (.slice none 0 0)))]
instance : Live qy6 := ⟨[]⟩
def qy5 : List SOp := [zO 5 (.buildSlice 149 0 #[]),zM 6 0,zO 7 (.call ⟨.builtin .append,#[.tmp 5,.tmp 6],#[149,149]⟩),zG 2 7]
instance : Live qy5 := ⟨[0]⟩
def t_k157 : SC :=
 (.seq (.ops false qy8) (.seq (.seq (.ops false qy7) (.cond (.tmp 4) (.seq (.ops false qy6) .ret) .skip)) (.seq (.ops false qy5) .ret)))
theorem it_k157 : FnIs Tryz.prog 157 8 [.tmp 2] t_k157 := ⟨Tryz.f157, _, Tryz.func157, rfl, rfl, rfl, rfl, by kernel_rfl⟩

def z19 : List SOp := [zO 2 (.assign (.const (.slice none 0 0)))]
instance : Live z19 := ⟨[0]⟩
def z18 : List SOp := [zM 3 0,zO 4 (.binOp .eql 23 (.tmp 3) (.const (.slice none 0 0)) 23)]
instance : Live z18 := ⟨[0]⟩
def z17 : List SOp := [zO 2 (.assign (.const (.slice none 0 0)))]
instance : Live z17 := ⟨[]⟩
def z16 : List SOp := [zO 5 (.buildSlice 23 0 #[]),zM 6 0,zO 7 (.call ⟨.builtin .append,#[.tmp 5,.tmp 6],#[23,23]⟩),zG 2 7]
instance : Live z16 := ⟨[0]⟩
def t_k135 : SC :=
 (.seq (.ops false z19) (.seq (.seq (.ops false z18) (.cond (.tmp 4) (.seq (.ops false z17) .ret) .skip)) (.seq (.ops false z16) .ret)))
theorem it_k135 : FnIs Tryz.prog 135 8 [.tmp 2] t_k135 := ⟨Tryz.f135, _, Tryz.func135, rfl, rfl, rfl, rfl, by kernel_rfl⟩

theorem ev_k157 (l : List Rn) (hl : l.length ≤ 1000000000) : Ev (En Tryz.prog rfl).P 157 [.sl 2 (q07 l)] (.ret (.sl 2 (q07 l))) := by
 refine Ev.of_body it_k157 (by simp) (Run.start ?_)
 unfold t_k157
 cases l with
 | nil =>
  have e0 : q07 [] = [] := rfl
  rw [e0]
  (have hF := True.intro; refine q1j (k:=?_); clear hF)
  refine q4j (Hook.nil_eq (En Tryz.prog rfl).hT (sz := 2) TE_149 (by simp only [opS, opA, ev, cst, upd, evs, evp, q8g, qdg, NoM, qba, qhw, En_P, Option.getD, Option.map_some, Option.map_none, List.map_cons, List.map_nil, List.getElem?_cons_zero, List.getElem?_cons_succ, List.getElem?_nil, List.all_cons, List.all_nil, List.length_cons, List.length_nil, List.take_succ_cons, List.take_zero, List.drop_succ_cons, List.drop_zero, List.set_cons_zero, List.set_cons_succ, List.cons_append, List.nil_append, List.append_nil, List.toList_toArray, q78, boxA, q9k, q6h, q3o, q7p, qb7, q1i, q7m, qb5, q8h, q9e, q55, z7y, q7v, q7g, zax, qp0, qqe, zab, zac, qod, unA, qdx, zad, q2s, mmA, q5s, q26, q5k, qhy, q22, zaa, q1y, TyI.zeros, TyI.zeroElem, TyI.okElem, TD.isAgg, Value.cells, AVal.known, AVal.cells, AVal.one, AVal.plain, q0k, AVal.withCells, reduceCtorEq, ↓reduceIte, if_true, if_false, Bool.false_eq_true, false_implies, true_implies, implies_true, true_and, and_true, and_self, ne_eq, not_true, not_false_iff, Bool.and_true, Bool.true_and, Bool.and_false, Bool.false_and, Bool.or_true, Bool.true_or, Bool.or_false, Bool.false_or, Bool.not_true, Bool.not_false, beq_self_eq_true, Nat.reduceAdd, Nat.reduceMul, Nat.reduceLeDiff, Nat.reduceEqDiff, Nat.reduceBEq, Nat.mul_one, Nat.le_refl, Nat.zero_add, Nat.add_zero, Option.isSome_some, decide_true, decide_false, q7h, q9f, List.replicate_succ, List.replicate_zero, List.flatMap_cons, List.flatMap_nil, flat, tms, mms, Array.size_empty, z9r, qhz, q6c, Op.operands, AVal.at, AVal.atR, q6a, qe3, qr9, Option.map_some, List.contains_cons, List.contains_nil, List.isEmpty_nil, List.isEmpty_cons, Int.toNat_natCast, Int.natCast_nonneg, Int.reduceLE, Int.reduceLT, Int.reduceToNat, Nat.reduceLT, Nat.reduceSub, Int.reduceNeg, Int.reduceEq])) ?_
  rintro v M' ⟨rfl, b, rfl⟩
  dsimp only [AS.put]
  (have hF := True.intro; refine q1j (k:=?_); clear hF)
  refine Run.cond _ rfl (fun hc => ?_) (fun hc => ?_)
  ·(have hF := True.intro; refine q1j (k:=?_); clear hF)
   exact Fin.nil rfl
  ·(have hF := True.intro; refine q1j (k:=?_); clear hF)
   exact Fin.tmp' rfl rfl
 | cons x l =>
  have e1 : q07 (x :: l) = q4h x :: q07 l := rfl
  have e2 : (q07 l).length = l.length := q0v l
  have e3 : ((l.length + 1) * 16 ≤ 70368744177664) = True := by simp only [eq_iff_iff, iff_true]; simp at hl; omega
  have e4 : (l.length + 1 ≤ 4611686018427387904) = True := by simp only [eq_iff_iff, iff_true]; simp at hl; omega
  rw [e1]
  (have hF := (aI @e2 (aI @e3 @e4)); refine q1j (k:=?_); clear hF)
  exact Fin.tmp' rfl (q06 (x :: l))
def encI (n : Int) : AVal := .int .i64 n
def q05 (l : List Int) : List AVal := l.map encI
theorem q02 (l : List Int) : q0j (q05 l) = true := q4e fun _ => rfl
theorem q0f (l : List Int) : (q05 l).length = l.length := by simp [q05]
theorem ev_k135 (l : List Int) (hl : l.length ≤ 1000000000) : Ev (En Tryz.prog rfl).P 135 [.sl 1 (q05 l)] (.ret (.sl 1 (q05 l))) := by
 refine Ev.of_body it_k135 (by simp) (Run.start ?_)
 unfold t_k135
 cases l with
 | nil =>
  have e0 : q05 [] = [] := rfl
  rw [e0]
  (have hF := True.intro; refine q1j (k:=?_); clear hF)
  refine q4j (Hook.nil_eq (En Tryz.prog rfl).hT (sz := 1) TE_23 (by simp only [opS, opA, ev, cst, upd, evs, evp, q8g, qdg, NoM, qba, qhw, En_P, Option.getD, Option.map_some, Option.map_none, List.map_cons, List.map_nil, List.getElem?_cons_zero, List.getElem?_cons_succ, List.getElem?_nil, List.all_cons, List.all_nil, List.length_cons, List.length_nil, List.take_succ_cons, List.take_zero, List.drop_succ_cons, List.drop_zero, List.set_cons_zero, List.set_cons_succ, List.cons_append, List.nil_append, List.append_nil, List.toList_toArray, q78, boxA, q9k, q6h, q3o, q7p, qb7, q1i, q7m, qb5, q8h, q9e, q55, z7y, q7v, q7g, zax, qp0, qqe, zab, zac, qod, unA, qdx, zad, q2s, mmA, q5s, q26, q5k, qhy, q22, zaa, q1y, TyI.zeros, TyI.zeroElem, TyI.okElem, TD.isAgg, Value.cells, AVal.known, AVal.cells, AVal.one, AVal.plain, q0k, AVal.withCells, reduceCtorEq, ↓reduceIte, if_true, if_false, Bool.false_eq_true, false_implies, true_implies, implies_true, true_and, and_true, and_self, ne_eq, not_true, not_false_iff, Bool.and_true, Bool.true_and, Bool.and_false, Bool.false_and, Bool.or_true, Bool.true_or, Bool.or_false, Bool.false_or, Bool.not_true, Bool.not_false, beq_self_eq_true, Nat.reduceAdd, Nat.reduceMul, Nat.reduceLeDiff, Nat.reduceEqDiff, Nat.reduceBEq, Nat.mul_one, Nat.le_refl, Nat.zero_add, Nat.add_zero, Option.isSome_some, decide_true, decide_false, q7h, q9f, List.replicate_succ, List.replicate_zero, List.flatMap_cons, List.flatMap_nil, flat, tms, mms, Array.size_empty, z9r, qhz, q6c, Op.operands, AVal.at, AVal.atR, q6a, qe3, qr9, Option.map_some, List.contains_cons, List.contains_nil, List.isEmpty_nil, List.isEmpty_cons, Int.toNat_natCast, Int.natCast_nonneg, Int.reduceLE, Int.reduceLT, Int.reduceToNat, Nat.reduceLT, Nat.reduceSub, Int.reduceNeg, Int.reduceEq])) ?_
  rintro v M' ⟨rfl, b, rfl⟩
  dsimp only [AS.put]
  (have hF := True.intro; refine q1j (k:=?_); clear hF)
  refine Run.cond _ rfl (fun hc => ?_) (fun hc => ?_)
  ·(have hF := True.intro; refine q1j (k:=?_); clear hF)
   exact Fin.nil rfl
  ·(have hF := True.intro; refine q1j (k:=?_); clear hF)
   exact Fin.tmp' rfl rfl
 | cons x l =>
  have e1 : q05 (x :: l) = encI x :: q05 l := rfl
  have e2 : (q05 l).length = l.length := q0f l
  have e3 : ((l.length + 1) * 8 ≤ 70368744177664) = True := by simp only [eq_iff_iff, iff_true]; simp at hl; omega
  have e4 : (l.length + 1 ≤ 4611686018427387904) = True := by simp only [eq_iff_iff, iff_true]; simp at hl; omega
  rw [e1]
  (have hF := (aI @e2 (aI @e3 @e4)); refine q1j (k:=?_); clear hF)
  exact Fin.tmp' rfl (q02 (x :: l))


def lastStep (a : Int) (r : Rn) : Int := if (q4t r).1 ≤ (q4t r).2 then max a (q4t r).2 else a
def lastR (l : List Rn) : Int := l.foldl lastStep 0
theorem q3a {l : List Rn} {i : Nat} {r : Rn} (h : l[i]? = some r) : (q07 l)[i]? = some (q4h r) := by simp [q07, h]
theorem q32 {α β : Type} (f : β → α → β) (a : β) (l : List α) {i : Nat} {x : α} (h : l[i]? = some x) : (l.take (i + 1)).foldl f a = f ((l.take i).foldl f a) x := by
 rw [List.take_add_one, h]
 simp

def inR (l : List Rn) (n : Int) : Prop := ∃ r ∈ l, r.1 ≤ n ∧ n ≤ r.2
def okR (r : Rn) : Prop := 1 ≤ r.1 ∧ r.1 ≤ r.2 ∧ r.2 ≤ 1000000000
def sepR (x y : Rn) : Prop := x.2 + 1 < y.1
def Can (l : List Rn) : Prop := l.Pairwise sepR ∧ ∀ r ∈ l, okR r
def mem1 (l : List Rn) (n : Int) : Prop := 1 ≤ n ∧ n ≤ 1000000000 ∧ inR l n
theorem q29 (n : Int) : ¬ inR [] n := fun ⟨r, h, _⟩ => by cases h
theorem q0u (x : Rn) (l : List Rn) (n : Int) : inR (x :: l) n ↔ (x.1 ≤ n ∧ n ≤ x.2) ∨ inR l n := by
 constructor
 ·rintro ⟨r, hr, h⟩
  rcases List.mem_cons.1 hr with rfl | hr
  ·exact .inl h
  ·exact .inr ⟨r, hr, h⟩
 ·rintro (h | ⟨r, hr, h⟩)
  ·exact ⟨x, by simp, h⟩
  ·exact ⟨r, by simp [hr], h⟩
theorem q2i (l m : List Rn) (n : Int) : inR (l ++ m) n ↔ inR l n ∨ inR m n := by
 constructor
 ·rintro ⟨r, hr, h⟩
  rcases List.mem_append.1 hr with hr | hr
  ·exact .inl ⟨r, hr, h⟩
  ·exact .inr ⟨r, hr, h⟩
 ·rintro (⟨r, hr, h⟩ | ⟨r, hr, h⟩)
  ·exact ⟨r, by simp [hr], h⟩
  ·exact ⟨r, by simp [hr], h⟩
theorem q70 (x : Rn) (n : Int) : inR [x] n ↔ x.1 ≤ n ∧ n ≤ x.2 := by
 rw [q0u]
 constructor
 ·rintro (h | h)
  ·exact h
  ·exact absurd h (q29 n)
 ·exact .inl
theorem inR_perm {l m : List Rn} (h : l.Perm m) (n : Int) : inR l n ↔ inR m n :=
 ⟨fun ⟨r, hr, hn⟩ => ⟨r, h.mem_iff.1 hr, hn⟩, fun ⟨r, hr, hn⟩ => ⟨r, h.mem_iff.2 hr, hn⟩⟩
theorem Can.nil : Can [] := ⟨.nil, fun r h => by cases h⟩
theorem Can.cons_iff {x : Rn} {l : List Rn} : Can (x :: l) ↔ okR x ∧ (∀ y ∈ l, sepR x y) ∧ Can l := by
 unfold Can
 rw [List.pairwise_cons]
 constructor
 ·rintro ⟨⟨h1, h2⟩, h3⟩
  exact ⟨h3 x (by simp), h1, h2, fun r hr => h3 r (by simp [hr])⟩
 ·rintro ⟨h1, h2, h3, h4⟩
  refine ⟨⟨h2, h3⟩, fun r hr => ?_⟩
  rcases List.mem_cons.1 hr with rfl | hr
  ·exact h1
  ·exact h4 r hr
theorem Can.tail {x : Rn} {l : List Rn} (h : Can (x :: l)) : Can l := (Can.cons_iff.1 h).2.2
theorem Can.bound {l : List Rn} (h : Can l) {n : Int} (hn : inR l n) : 1 ≤ n ∧ n ≤ 1000000000 := by
 obtain ⟨r, hr, h1, h2⟩ := hn
 have := h.2 r hr
 unfold okR at this
 omega
theorem Can.mem1 {l : List Rn} (h : Can l) (n : Int) : Avm.mem1 l n ↔ inR l n := ⟨fun hn => hn.2.2, fun hn => ⟨(h.bound hn).1, (h.bound hn).2, hn⟩⟩
theorem Can.above {x : Rn} {l : List Rn} (h : Can (x :: l)) {n : Int} (hn : inR l n) : x.2 + 1 < n := by
 obtain ⟨r, hr, h1, h2⟩ := hn
 have := (Can.cons_iff.1 h).2.1 r hr
 unfold sepR at this
 omega
theorem Can.snoc {l : List Rn} {x : Rn} (h : Can l) (hx : okR x) (hs : ∀ y ∈ l, sepR y x) : Can (l ++ [x]) := by
 refine ⟨?_, fun r hr => ?_⟩
 ·rw [List.pairwise_append]
  exact ⟨h.1, by simp, fun a ha b hb => by simp at hb; subst hb; exact hs a ha⟩
 ·rcases List.mem_append.1 hr with hr | hr
  ·exact h.2 r hr
  ·simp at hr; subst hr; exact hx
theorem Can.snoc_iff {l : List Rn} {x : Rn} : Can (l ++ [x]) ↔ Can l ∧ okR x ∧ ∀ y ∈ l, sepR y x := by
 constructor
 ·rintro ⟨h1, h2⟩
  rw [List.pairwise_append] at h1
  exact ⟨⟨h1.1, fun r hr => h2 r (by simp [hr])⟩, h2 x (by simp), fun y hy => h1.2.2 y hy x (by simp)⟩
 ·rintro ⟨h1, h2, h3⟩
  exact h1.snoc h2 h3
theorem Can.ext : ∀ {l m : List Rn}, Can l → Can m → (∀ n, inR l n ↔ inR m n) → l = m
 | [], [], _, _, _ => rfl
 | [], y :: m, _, hm, h => by
  have hy := (Can.cons_iff.1 hm).1
  exact absurd ((h y.1).2 ((q0u y m _).2 (.inl ⟨Int.le_refl _, hy.2.1⟩))) (q29 _)
 | x :: l, [], hl, _, h => by
  have hx := (Can.cons_iff.1 hl).1
  exact absurd ((h x.1).1 ((q0u x l _).2 (.inl ⟨Int.le_refl _, hx.2.1⟩))) (q29 _)
 | x :: l, y :: m, hl, hm, h => by
  have hx := (Can.cons_iff.1 hl).1
  have hy := (Can.cons_iff.1 hm).1
  unfold okR at hx hy
  have a1 := (q0u y m x.1).1 ((h x.1).1 ((q0u x l _).2 (.inl ⟨Int.le_refl _, hx.2.1⟩)))
  have a2 := (q0u x l y.1).1 ((h y.1).2 ((q0u y m _).2 (.inl ⟨Int.le_refl _, hy.2.1⟩)))
  have b1 : x.1 = y.1 := by
   rcases a1 with a1 | a1 <;> rcases a2 with a2 | a2
   ·omega
   ·have := hl.above a2; omega
   ·have := hm.above a1; omega
   ·have := hl.above a2; have := hm.above a1; omega
  have c1 : ¬ x.2 < y.2 := fun hlt => by
   rcases (q0u x l (x.2 + 1)).1 ((h (x.2 + 1)).2 ((q0u y m _).2 (.inl (by omega)))) with c | c
   ·omega
   ·have := hl.above c; omega
  have c2 : ¬ y.2 < x.2 := fun hlt => by
   rcases (q0u y m (y.2 + 1)).1 ((h (y.2 + 1)).1 ((q0u x l _).2 (.inl (by omega)))) with c | c
   ·omega
   ·have := hm.above c; omega
  have hxy : x = y := Prod.ext b1 (by omega)
  subst hxy
  rw [Can.ext hl.tail hm.tail fun n => ?_]
  constructor
  ·intro hn
   have := hl.above hn
   rcases (q0u x m n).1 ((h n).1 ((q0u x l _).2 (.inr hn))) with c | c
   ·omega
   ·exact c
  ·intro hn
   have := hm.above hn
   rcases (q0u x l n).1 ((h n).2 ((q0u x m _).2 (.inr hn))) with c | c
   ·omega
   ·exact c
def q0t (l : List Rn) : List Rn := (l.map q4t).filter fun r => decide (r.1 ≤ r.2)
theorem q8a (x : Rn) (l : List Rn) : q0t (x :: l) = if (q4t x).1 ≤ (q4t x).2 then q4t x :: q0t l else q0t l := by
 unfold q0t
 rw [List.map_cons, List.filter_cons]
 simp only [decide_eq_true_eq]
theorem q63 (l m : List Rn) : q0t (l ++ m) = q0t l ++ q0t m := by simp [q0t]
theorem q9v {l : List Rn} : ∀ r ∈ q0t l, okR r := by
 intro r hr
 simp only [q0t, List.mem_filter, List.mem_map, decide_eq_true_eq] at hr
 obtain ⟨⟨x, _, rfl⟩, h⟩ := hr
 unfold q4t at *
 unfold okR
 simp only at *
 omega
theorem z7s (l : List Rn) (n : Int) : inR (q0t l) n ↔ mem1 l n := by
 constructor
 ·rintro ⟨r, hr, h1, h2⟩
  have hok := q9v r hr
  simp only [q0t, List.mem_filter, List.mem_map, decide_eq_true_eq] at hr
  obtain ⟨⟨x, hx, rfl⟩, h⟩ := hr
  unfold okR at hok
  unfold q4t at *
  simp only at *
  exact ⟨by omega, by omega, x, hx, by omega, by omega⟩
 ·rintro ⟨h1, h2, x, hx, h3, h4⟩
  refine ⟨q4t x, ?_, ?_, ?_⟩
  ·simp only [q0t, List.mem_filter, List.mem_map, decide_eq_true_eq]
   refine ⟨⟨x, hx, rfl⟩, ?_⟩
   unfold q4t
   simp only
   omega
  ·unfold q4t
   simp only
   omega
  ·unfold q4t
   simp only
   omega
theorem q9w (l : List Rn) : (q0t l).length ≤ l.length := by
 unfold q0t
 exact Nat.le_trans (List.length_filter_le _ _) (by simp)
def leLo (x y : Rn) : Prop := x.1 ≤ y.1
theorem addR_ok {out : List Rn} {r : Rn} (h : Can out) (hr : okR r) (hs : ∀ x ∈ out, x.1 ≤ r.1) :
 Can (qef out r) ∧ (∀ n, inR (qef out r) n ↔ inR out n ∨ (r.1 ≤ n ∧ n ≤ r.2)) ∧ ∀ x ∈ qef out r, x.1 ≤ r.1 := by
 rcases List.eq_nil_or_concat out with rfl | ⟨l, x, rfl⟩
 ·rw [z86]
  refine ⟨Can.cons_iff.2 ⟨hr, by simp, Can.nil⟩, fun n => ?_, by simp⟩
  rw [q70]
  exact ⟨.inr, fun h => h.elim (fun h => absurd h (q29 n)) id⟩
 ·simp only [List.concat_eq_append] at *
  rw [qee]
  obtain ⟨h1, h2, h3⟩ := Can.snoc_iff.1 h
  have hx := hs x (by simp)
  unfold okR at h2 hr
  split
  ·rename_i hc
   refine ⟨h1.snoc ⟨h2.1, ?_, ?_⟩ fun y hy => h3 y hy, fun n => ?_, fun y hy => ?_⟩
   ·show x.1 ≤ max x.2 r.2; omega
   ·show max x.2 r.2 ≤ 1000000000; omega
   ·rw [q2i, q2i, q70, q70]
    simp only
    constructor
    ·rintro (h | h)
     ·exact .inl (.inl h)
     ·by_cases hn : n ≤ x.2
      ·exact .inl (.inr (by omega))
      ·exact .inr (by omega)
    ·rintro ((h | h) | h)
     ·exact .inl h
     ·exact .inr (by omega)
     ·exact .inr (by omega)
   ·rcases List.mem_append.1 hy with hy | hy
    ·exact hs y (by simp [hy])
    ·simp at hy; subst hy; exact hx
  ·rename_i hc
   refine ⟨h.snoc ⟨hr.1, hr.2.1, hr.2.2⟩ fun y hy => ?_, fun n => ?_, fun y hy => ?_⟩
   ·rcases List.mem_append.1 hy with hy | hy
    ·have := h3 y hy
     unfold sepR at *
     omega
    ·simp at hy; subst hy
     unfold sepR
     omega
   ·rw [q2i (l ++ [x]), q70]
   ·rcases List.mem_append.1 hy with hy | hy
    ·exact hs y hy
    ·simp at hy; subst hy; exact Int.le_refl _
theorem qas : ∀ {s out : List Rn}, s.Pairwise leLo → (∀ r ∈ s, okR r) → Can out → (∀ x ∈ out, ∀ r ∈ s, x.1 ≤ r.1) →
 Can (s.foldl qef out) ∧ ∀ n, inR (s.foldl qef out) n ↔ inR out n ∨ inR s n
 | [], out, _, _, h, _ => ⟨h, fun n => ⟨.inl, fun h => h.elim id fun h => absurd h (q29 n)⟩⟩
 | r :: s, out, hp, hok, h, hs => by
  rw [List.pairwise_cons] at hp
  obtain ⟨a1, a2, a3⟩ := addR_ok h (hok r (by simp)) fun x hx => hs x hx r (by simp)
  obtain ⟨b1, b2⟩ := qas (s := s) (out := qef out r) hp.2 (fun x hx => hok x (by simp [hx])) a1 fun x hx y hy => Int.le_trans (a3 x hx) (hp.1 y hy)
  refine ⟨b1, fun n => ?_⟩
  rw [List.foldl_cons, b2 n, a2 n, q0u]
  constructor
  ·rintro ((h | h) | h)
   ·exact .inl h
   ·exact .inr (.inl h)
   ·exact .inr (.inr h)
  ·rintro (h | h | h)
   ·exact .inl (.inl h)
   ·exact .inl (.inr h)
   ·exact .inr h
theorem qfx (s : List Rn) (out : List Rn) : (s.foldl qef out).length ≤ out.length + s.length := by
 induction s generalizing out with
 | nil => simp
 | cons r s ih =>
  have h1 : (qef out r).length ≤ out.length + 1 := by
   rcases List.eq_nil_or_concat out with rfl | ⟨l, x, rfl⟩
   ·simp [z86]
   ·simp only [List.concat_eq_append]
    rw [qee]
    split <;> simp
  have := ih (qef out r)
  simp only [List.foldl_cons, List.length_cons]
  omega
def sortR (l : List Rn) : List Rn := l.mergeSort (fun x y => decide (x.1 ≤ y.1))
theorem qa6 (l : List Rn) : (sortR l).Perm l := List.mergeSort_perm l _
theorem qax (l : List Rn) : (sortR l).Pairwise leLo := by
 have := List.pairwise_mergeSort (le := fun (x y : Rn) => decide (x.1 ≤ y.1)) (fun a b c h1 h2 => by simp at *; omega) (fun a b => by simp; omega) l
 exact this.imp fun {a b} h => by simpa [leLo] using h
def q13 (l : List Rn) : List Rn := (sortR (q0t l)).foldl qef []
theorem qgr {l s : List Rn} (hs : s.Pairwise leLo) (hp : s.Perm (q0t l)) : Can (s.foldl qef []) ∧ ∀ n, inR (s.foldl qef []) n ↔ mem1 l n := by
 obtain ⟨h1, h2⟩ := qas (out := []) hs (fun r hr => q9v r (hp.mem_iff.1 hr)) Can.nil (fun x hx => by cases hx)
 refine ⟨h1, fun n => ?_⟩
 rw [h2 n, inR_perm hp, z7s]
 exact ⟨fun h => h.elim (fun h => absurd h (q29 n)) id, .inr⟩
theorem q1c (l : List Rn) : Can (q13 l) := (qgr (qax _) (qa6 _)).1
theorem q2p (l : List Rn) (n : Int) : inR (q13 l) n ↔ mem1 l n := (qgr (qax _) (qa6 _)).2 n
theorem z6v {l s : List Rn} (hs : s.Pairwise leLo) (hp : s.Perm (q0t l)) : s.foldl qef [] = q13 l :=
 Can.ext (qgr hs hp).1 (q1c l) fun n => by rw [(qgr hs hp).2 n, q2p]
theorem ziz {l m : List Rn} (h : ∀ n, mem1 l n ↔ mem1 m n) : q13 l = q13 m :=
 Can.ext (q1c l) (q1c m) fun n => by rw [q2p, q2p, h]
theorem q5v {l : List Rn} (h : Can l) : q13 l = l := Can.ext (q1c l) h fun n => by rw [q2p, h.mem1]
theorem q1z (l : List Rn) : (q13 l).length ≤ l.length := by
 have h := qfx (sortR (q0t l)) []
 have h2 := (qa6 (q0t l)).length_eq
 have h3 := q9w l
 unfold q13
 simp only [List.length_nil] at h
 omega
def IsTop (q : Int → Prop) (m : Int) : Prop := (m = 0 ∨ q m) ∧ ∀ n, q n → n ≤ m
theorem IsTop.uniq {q : Int → Prop} {m m' : Int} (hq : ∀ n, q n → 1 ≤ n) (h : IsTop q m) (h' : IsTop q m') : m = m' := by
 rcases h.1 with h1 | h1 <;> rcases h'.1 with h2 | h2
 ·omega
 ·have := h.2 _ h2; have := hq _ h2; omega
 ·have := h'.2 _ h1; have := hq _ h1; omega
 ·have := h.2 _ h2; have := h'.2 _ h1; omega
theorem IsTop.iff {q q' : Int → Prop} {m : Int} (h : IsTop q m) (hq : ∀ n, q n ↔ q' n) : IsTop q' m := ⟨h.1.imp id (hq m).1, fun n hn => h.2 n ((hq n).2 hn)⟩

section
open Go.Shelf Go.RowKit Go.Lib Go.Sort
def con : AVal → Value
 | .int k n => .int k n
 | .bool b => .bool b
 | .str s => .string s
 | _ => undef
def AVal.isCon : AVal → Bool
 | .int _ _ => true
 | .bool _ => true
 | .str _ => true
 | _ => false
theorem con_VR {D : Nat → Nat → Prop} {G : Gh} {B : Nat → Prop} {w : World} {x : AVal} (h : x.isCon = true) : VR D G B w x (con x) := by
 cases x <;> simp only [AVal.isCon, Bool.false_eq_true] at h
 ·exact .int _ _
 ·exact .bool _
 ·exact .str _
theorem con_of {D : Nat → Nat → Prop} {G : Gh} {B : Nat → Prop} {w : World} {x : AVal} {v : Value} (h : x.isCon = true) (hv : VR D G B w x v) : v = con x := by
 cases x <;> simp only [AVal.isCon, Bool.false_eq_true] at h <;> cases hv <;> rfl
theorem con_one {x : AVal} (h : x.isCon = true) : (con x).oneCell' = true := by
 cases x <;> simp only [AVal.isCon, Bool.false_eq_true] at h <;> rfl
theorem con_AOne {x : AVal} (h : x.isCon = true) : x.one = true := by
 cases x <;> simp only [AVal.isCon, Bool.false_eq_true] at h <;> rfl
theorem Adv.grown {G G' : Gh} {w w' : World} (h : Adv G w G' w') (hG : ∀ b, G.ow b = none) : ∃ q os, w' = grow (w.drewN q) os := by
 refine ⟨w'.drawn - w.drawn, w'.heap.extract w.heap.size w'.heap.size, ?_⟩
 have hh : w'.heap = w.heap ++ w'.heap.extract w.heap.size w'.heap.size := by
  apply Array.ext_getElem?
  intro i
  rcases Nat.lt_or_ge i w.heap.size with hi | hi
  ·rw [Array.getElem?_append_left hi]
   exact (h.keep i hi (hG i)).1
  ·rw [Array.getElem?_append_right hi, Array.getElem?_extract]
   rw [show w.heap.size + (i - w.heap.size) = i by omega]
   split
   ·rfl
   ·exact Array.getElem?_eq_none (by omega)
 have h1 := h.os
 have h2 := h.tape
 have h3 := h.output
 cases w; cases w'
 simp only [grow, World.drewN] at *
 congr 1
 ·omega
 ·exact h1.1
theorem q40 {τ : Type} {c : τ → List AVal} (l : List τ) : flat (l.map fun x => .agg (c x)) = l.flatMap c := by
 induction l with
 | nil => rfl
 | cons x l ih => simp only [List.map_cons, q39, ih, List.flatMap_cons]; rfl
theorem qah {τ : Type} {c : τ → List AVal} {k : Nat} (hk : ∀ x, (c x).length = k) {l : List τ} {i j : Nat} {x : τ} (hi : l[i]? = some x) (hj : j < k) : (l.flatMap c)[i * k + j]? = (c x)[j]? := by
 rw [← q40]
 rw [qag (sz := k) (x := .agg (c x)) (i := i) (j := j) (fun y hy => ?_) (by simp [hi]) hj]
 ·rfl
 ·obtain ⟨z, _, rfl⟩ := List.mem_map.1 hy
  exact hk z
section
variable {P : Program} {ρ : Ren} {τ : Type} [Inhabited τ]
theorem sortOwn (L : SlLaysF0.n6 P ρ) (hc6 : Callable P (ρ.f 6)) (k : Nat) (h0k : 0 < k) (aE : ∀ w, (isAgg (ρ.t 24)).run P w = .ok true w) (zE : ∀ w, (Go.sizeOf (ρ.t 24)).run P w = .ok k w)
 (c : τ → List AVal) (hk : ∀ x, (c x).length = k) (hcon : ∀ x, ∀ y ∈ c x, y.isCon = true) (cf : τ → τ → Int) (hO : SWO (ltOf cf)) (g : FuncId) (hcmp : ∀ x y : τ, Ev P g [.agg (c x), .agg (c y)] (.ret (.int .i64 (cf x y)))) (l : List τ) (hl : l.length < 4611686018427387904) :
 ∃ s : List τ, s.Perm l ∧ s.Pairwise (fun x y => ltOf cf y x = false) ∧ EvOwn P (ρ.f 6) [.undef, .fn g []] 0 k (l.map fun x => .agg (c x)) false (.tup []) (s.map fun x => .agg (c x)) := by
 let d : Array τ := l.toArray
 let d' := pdq (ltOf cf) d 0 d.size (Lib.bitLen d.size) true true
 have hds : d.size = l.length := by simp [d]
 obtain ⟨hp, hsrt⟩ := pdq_sorts (ltOf cf) hO d 0 d.size (Lib.bitLen d.size) true true (Nat.zero_le _) (Nat.le_refl _) (Or.inl rfl)
 have hsz' : d'.size = d.size := hp.1
 have hperm : d'.toList.Perm l := by
  have := hp.2.2
  have e : ∀ (x : Array τ) (n : Nat), x.size = n → x.extract 0 n = x := by rintro x n rfl; exact Array.extract_size
  rw [e d _ rfl, e _ _ hsz'] at this
  simpa [d] using this
 have hpw : d'.toList.Pairwise (fun x y => ltOf cf y x = false) := by
  rw [List.pairwise_iff_getElem]
  intro i j hi hj hij
  have h1 : i < d'.size := by simpa using hi
  have h2 : j < d'.size := by simpa using hj
  have := hsrt i j (Nat.zero_le _) hij (by rw [← hsz']; exact h2)
  rw [show (pdq (ltOf cf) d 0 d.size (Lib.bitLen d.size) true true) = d' from rfl, getElem!_pos d' i h1, getElem!_pos d' j h2] at this
  simpa using this
 refine ⟨d'.toList, hperm, hpw, hc6, fun B w vs G hkey hvs hv hown hB hol => ?_⟩
 obtain ⟨v0, hv0, hown⟩ := hown
 obtain ⟨v1, hv1⟩ : ∃ v, vs[1]? = some v := ⟨vs[1]'(by rw [hvs]; simp), by simp [hvs]⟩
 have hfn := hv 1 (.fn g []) v1 (by decide) rfl hv1
 have hf1 : v1 = .func (.func g) #[] #[] := by
  cases hfn with
  | fn _ _ ws hl0 _ =>
   have : ws = #[] := Array.eq_empty_of_size_eq_zero (by simpa using hl0)
   rw [this]
 have hvs' : vs = #[v0, v1] := by
  have h2 : vs.size = 2 := hvs
  apply Array.ext_getElem?
  intro i
  match i with
  | 0 => simpa using hv0
  | 1 => simpa using hv1
  | i + 2 => rw [Array.getElem?_eq_none (by omega)]; simp
 rw [hvs', hf1]
 rcases hown with ⟨rfl, hnil⟩ | ⟨b, off, cap, cc, el, hb1, hb2, hb3, hb4, hb5, hb6, hb7, hb8, hb9⟩
 ·have hl0 : l = [] := by simpa using hnil
  have hd0 : d'.toList = [] := by rw [hl0] at hperm; exact hperm.eq_nil
  refine (AnyF.slices_SortFunc_none L none 0 (.func (.func g) #[] #[]) w).mono ?_
  rintro e w' ⟨rfl, rfl⟩
  refine ⟨G, .tuple #[], .slice none 0 0, rfl, hkey, hol, .refl G _, .inl ⟨rfl, by rw [hd0]; rfl⟩, fun h => (by cases h), fun _ => ⟨by simp, .tup [] #[] rfl fun n x v hx => by simp at hx⟩⟩
 ·rw [q40] at hb8 hb9
  have hblk : b < w.heap.size := by
   rcases Nat.lt_or_ge b w.heap.size with h | h
   ·exact h
   ·rw [Array.getElem?_eq_none h] at hb5; cases hb5
  have hlen : (l.map fun x => AVal.agg (c x)).length = l.length := by simp
  rw [hlen] at hb1 hb2
  have hroom : off + l.length * k ≤ cc.size := by
   have := Nat.mul_le_mul_right k hb2
   omega
  let enc : τ → List Value := fun x => (c x).map con
  have hek : ∀ x, (enc x).length = k := fun x => by simp [enc, hk]
  have he1 : ∀ x, ∀ v ∈ enc x, v.oneCell' = true := fun x v hv => by
   obtain ⟨y, hy, rfl⟩ := List.mem_map.1 hv
   exact con_one (hcon x y hy)
  have cellv : ∀ (m : Array τ) (t : Nat), t < m.size * k → ∃ (x : τ) (y : AVal), m.toList[t / k]? = some x ∧ (c x)[t % k]? = some y ∧ (m.toList.flatMap c)[t]? = some y ∧ (flatK enc k m)[t]! = con y := by
   intro m t ht
   have h1 : t / k < m.size := Nat.div_lt_of_lt_mul (by rw [Nat.mul_comm]; exact ht)
   have h2 : t % k < k := Nat.mod_lt _ h0k
   have hx : m.toList[t / k]? = some m[t / k] := by simp [h1]
   have hy : (c m[t / k])[t % k]? = some ((c m[t / k])[t % k]'(by rw [hk]; exact h2)) := by simp [hk, h2]
   refine ⟨m[t / k], _, hx, hy, ?_, ?_⟩
   ·rw [← hy, ← qah hk hx h2, Nat.mul_comm, Nat.div_add_mod]
   ·rw [get_flatK _ _ _ _ ht, getElem!_pos m _ h1, getElem!_pos (enc m[t / k]) _ (by rw [hek]; exact h2)]
    simp [enc]
  have hH : HoldsK enc k w b off d := by
   intro t ht
   rw [size_flatK, hds] at ht
   obtain ⟨x, y, e1, e2, e3, e4⟩ := cellv d t (by rw [hds]; exact ht)
   obtain ⟨u, hu, hr⟩ := hb9 t y (by simpa [d] using e3)
   have hx := hcon x y (List.mem_of_getElem? e2)
   refine ⟨?_, ?_⟩
   ·rw [q36 hb5, hu, con_of hx hr, e4]; rfl
   ·simp [World.frozen?, hb5]
  have hlays : CmpLays P g #[] enc k cf b off d.size w := by
   intro m os dk hdk x y
   have hE := (hcmp x y).2 (fun _ => False) (sortWorldK enc k w b off m dk os) #[.agg (enc x).toArray, .agg (enc y).toArray] { G with ow := fun _ => none } (fun _ => rfl) rfl (fun i z v hz hv => ?_) (fun _ h => h.elim)
   ·refine hE.mono ?_
    rintro e w' ⟨G', v', hG', hA, he, hr⟩
    cases hr
    exact ⟨he, hA.grown (fun _ => rfl)⟩
   ·have hone : ∀ x : τ, VR (Dm NoM) { G with ow := fun _ => none } (fun _ => False) (sortWorldK enc k w b off m dk os) (.agg (c x)) (.agg (enc x).toArray) := fun x => by
     refine .agg _ _ (by simp [enc]) fun n z v hz hv => ?_
     simp only [enc, List.getElem?_toArray, List.getElem?_map, hz, Option.map_some, Option.some.injEq] at hv
     subst hv
     exact con_VR (hcon x z (List.mem_of_getElem? hz))
    match i with
    | 0 => simp at hz hv; subst hz; subst hv; exact hone x
    | 1 => simp at hz hv; subst hz; subst hv; exact hone y
    | i + 2 => simp at hz
  have eg : ∀ args w, (callFunc g args).run P w = .ok (.enter g args) w := fun args w => by
   obtain ⟨fn, hfn, hnm, hbd⟩ := (hcmp default default).1.ok
   have e1 : (fn.name = "runtime.NumGoroutine") = False := by simpa using hnm
   have e2 : (fn.body = none) = False := by simp only [eq_iff_iff, iff_false]; intro hn; rw [hn] at hbd; simp at hbd
   simp [callFunc, hfn, e1, e2]
  have hmain := AnyQ.slices_SortFunc_eq L k aE zE enc hek he1 cf hO g #[] b off cap d w eg hlays hH hblk (by rw [hds]; exact hl)
  rw [hb1, show l.length = d.size by rw [hds]]
  refine hmain.mono ?_
  rintro e w' ⟨rfl, n, os, hw'⟩
  have hw0 : ∀ b', b' < w.heap.size → w'.heap[b']? = if b' = b then some (.cells (putCells id off (flatK enc k d') cc) el (0, 0)) else w.heap[b']? := by
   intro b' hb'
   rw [hw']
   simp only [sortWorldK, grow, putRowK, putRow, mapBlock, Sort.ahead]
   rw [Array.getElem?_append_left (by simpa using hb'), Array.getElem?_modify]
   by_cases hbb : b = b'
   ·subst hbb
    rw [if_pos rfl, if_pos rfl, hb5]
    rfl
   ·rw [if_neg hbb, if_neg (Ne.symm hbb)]
  have hsize : w.heap.size ≤ w'.heap.size := by
   rw [hw']
   simp [sortWorldK, grow, putRowK, putRow, mapBlock, Sort.ahead]
  have hkeep : ∀ b', b' < w.heap.size → G.ow b' = none → w'.heap[b']? = w.heap[b']? ∧ G.ow b' = none := fun b' hb' ho => by
   refine ⟨?_, ho⟩
   rw [hw0 b' hb', if_neg]
   rintro rfl
   rw [hb3] at ho; cases ho
  have hA : Adv G w G w' := ⟨by rw [hw']; exact ⟨rfl, Nat.le_add_right _ _⟩, by rw [hw']; rfl, by rw [hw']; rfl, hsize, hkeep⟩
  refine ⟨G, .tuple #[], v0, rfl, hkey, fun b' hb' => Nat.lt_of_lt_of_le (hol b' hb') hsize, hA, .inr ⟨b, off, cap, putCells id off (flatK enc k d') cc, el, ?_, ?_, hb3, hb4, ?_, ?_, ?_, ?_, ?_⟩, fun h => (by cases h), fun _ => ⟨by simp [hb1, hds], .tup [] #[] rfl fun n x v hx => by simp at hx⟩⟩
  ·rw [hb1]; simp [hsz', hds]
  ·simp only [List.length_map, Array.length_toList, hsz', hds]; exact hb2
  ·rw [hw0 b hblk, if_pos rfl]
  ·simp only [putCells, Array.size_mapIdx]; exact hb6
  ·intro x hx
   obtain ⟨z, _, rfl⟩ := List.mem_map.1 hx
   exact hk z
  ·intro x hx
   rw [q40] at hx
   obtain ⟨z, _, hz⟩ := List.mem_flatMap.1 hx
   exact con_AOne (hcon z x hz)
  ·intro t x hx
   rw [q40] at hx
   have htl : t < d'.size * k := by
    have h1 : t < (d'.toList.flatMap c).length := by
     rcases Nat.lt_or_ge t (d'.toList.flatMap c).length with h | h
     ·exact h
     ·rw [List.getElem?_eq_none h] at hx; cases hx
    rwa [← q40, q0p (sz := k) (fun y hy => by obtain ⟨z, _, rfl⟩ := List.mem_map.1 hy; exact hk z), List.length_map, Array.length_toList] at h1
   obtain ⟨z, y, e1, e2, e3, e4⟩ := cellv d' t htl
   rw [hx] at e3
   cases e3
   have hlt : off + t < cc.size := by rw [hsz', hds] at htl; omega
   refine ⟨con x, ?_, con_VR (hcon z x (List.mem_of_getElem? e2))⟩
   simp only [putCells, Array.getElem?_mapIdx, Array.getElem?_eq_getElem hlt, Option.map_some]
   rw [if_pos ⟨by omega, by rw [size_flatK]; omega⟩, show off + t - off = t by omega, e4]
   rfl
end
end
theorem qf3 {K : Nat → Bool} {x : AVal} (h : x.stb = true) : x.noC K = true := by
 have h' := q1d (K := K) h
 cases x <;> first | exact h' | exact absurd h (by simp [AVal.stb])
theorem q9x (K : Nat → Bool) {cs : List AVal} (h : q0j cs = true) : (ABlk.cells cs).no K = true := by
 simp only [ABlk.no, List.all_eq_true]
 exact fun x hx => qf3 (q99 h x hx)
def z7u : AVal → Bool
 | .own _ xs => q0j xs
 | .hole => true
 | x => x.stb
def qhr (cs : List AVal) : Bool := cs.all z7u
theorem qhq (K : Nat → Bool) {cs : List AVal} (h : qhr cs = true) : (ABlk.cells cs).no K = true := by
 simp only [ABlk.no, List.all_eq_true]
 intro x hx
 have := List.all_eq_true.1 h x hx
 cases x <;> first | exact qf3 this | rfl | skip
 case own sz xs =>
  simp only [AVal.noC, List.all_eq_true]
  exact fun y hy => q1d (q4l this y hy)
def frz : AVal → AVal
 | .own sz xs => .sl sz xs
 | .hole => .undef
 | x => x
def qpf (k : Nat) : OKey → Bool
 | .cell k' _ => k' == k
 | _ => false
theorem Wk.freeze {n : Nat} {T : q1x} {M : Mem} {k : Nat} {cs : List AVal} (hk : M k = some (.cells cs)) : Wk n ⟨T, M⟩ ⟨T, upd M k (some (.cells (cs.map frz)))⟩ := by
 intro B G a w hR
 obtain ⟨c, el, b1, b2, b3, b4, b5⟩ := hR.mem k _ hk
 let G' : Gh := { G with ow := fun b => match G.ow b with | some key => if qpf k key = true then none else some key | none => none }
 have g0 : ∀ b, G.ow b = none → G'.ow b = none := fun b hb => by simp [G', hb]
 have hA : Adv G w G' w := ⟨⟨rfl, Nat.le_refl _⟩, rfl, rfl, Nat.le_refl _, fun b _ ho => ⟨rfl, g0 b ho⟩⟩
 have hD : ∀ j e, Dm M j e → Dm (upd M k (some (.cells (cs.map frz)))) j e := fun j e => q5m (by rw [hk]; trivial)
 have hw : ∀ b, b < w.heap.size → ¬ B b → G.ow b = none → w.heap[b]? = w.heap[b]? ∧ ¬ B b ∧ G'.ow b = none := fun b _ hn ho => ⟨rfl, hn, g0 b ho⟩
 refine ⟨G', hR.update hA k (.cells (cs.map frz)) (by show za7 (M k) _; rw [hk]; trivial) (fun _ _ _ => ⟨rfl, rfl⟩) (fun b key _ _ ho hne => ⟨rfl, ?_⟩) (fun b hb => hR.ol b fun hn => hb (g0 b hn)) ?_, hA⟩
 ·have : qpf k key = false := by cases key <;> simp_all [qpf, OKey.of]
  simp [G', ho, this]
 ·refine ⟨c, el, by simp [G', b1, qpf], b2, b3, by simp [b4], fun i y hy => ?_⟩
  rw [List.getElem?_map] at hy
  cases hx : cs[i]? with
  | none => simp [hx] at hy
  | some x =>
   simp only [hx, Option.map_some, Option.some.injEq] at hy
   subst hy
   obtain ⟨u, hu, hr⟩ := b5 i x hx
   refine ⟨u, hu, ?_⟩
   cases x with
   | own sz xs =>
    show VR _ G' B w (.sl sz xs) u
    rcases hr with ⟨rfl, rfl⟩ | ⟨b, o, cap, cc, ell, h1, h2, h3, h4, h5, h6, h7, h7', h8⟩
    ·exact .slnil sz
    ·rw [h1]
     refine .sl sz xs b o cap (fun m => cc.getD (o + m) undef) h2 (fun _ => ⟨h4, by simp [G', h3, qpf]⟩) h7' h7 (fun m x hx => ?_) (fun m x hx => ?_)
     ·obtain ⟨v, hv, _⟩ := h8 m x hx
      rw [q36 h5, hv]
      simp [hv]
     ·obtain ⟨v, hv, hvr⟩ := h8 m x hx
      have : cc.getD (o + m) undef = v := by simp [hv]
      simp only [this]
      exact VR.mono (G := G) (G' := G') (w := w) (w' := w) (B := B) hD (fun _ _ _ => ⟨rfl, rfl⟩) hw hvr
   | hole => exact .undef _
   | _ => exact VR.mono (G := G) (G' := G') (w := w) (w' := w) (B := B) hD (fun _ _ _ => ⟨rfl, rfl⟩) hw hr

def qya : List SOp := [zO 2 (.assign (.const (.slice none 0 0)))]
instance : Live qya := ⟨[0]⟩
def qy9 : List SOp := [zM 3 0,zO 4 (.buildSlice 223 1 #[(0,.tmp 3)]),zO 5 (.call ⟨.value (.func 169),#[.tmp 4],#[223]⟩),zG 2 5]
instance : Live qy9 := ⟨[0]⟩
def t_k156 : SC :=
 (.seq (.ops false qya) (.seq (.ops false qy9) .ret))
theorem it_k156 : FnIs Tryz.prog 156 6 [.tmp 2] t_k156 := ⟨Tryz.f156, _, Tryz.func156, rfl, rfl, rfl, rfl, by kernel_rfl⟩

theorem z9f (l m : List Rn) (hU : Ev (En Tryz.prog rfl).P 169 [.sl 1 [.sl 2 (q07 l)]] (.ret (.sl 2 (q07 m)))) : Ev (En Tryz.prog rfl).P 156 [.sl 2 (q07 l)] (.ret (.sl 2 (q07 m))) := by
 refine Ev.of_body it_k156 (by simp) (Run.start ?_)
 unfold t_k156
 (have hF := True.intro; refine q1j (k:=?_); clear hF)
 refine q2t (l := [.sl 1 [.sl 2 (q07 l)]]) rfl rfl (by simp [q0j, AVal.stb, q06]) hU ?_
 (have hF := True.intro; refine q1j (k:=?_); clear hF)
 exact Fin.tmp' rfl (q06 m)

def zch : List SOp := [zO 2 (.assign (.const (.pointer none)))]
instance : Live zch := ⟨[0]⟩
def zcg : List SOp := [zO 9 (.build 151 #[]),zO 10 (.box 151 (.tmp 9)),zG 3 10]
instance : Live zcg := ⟨[0]⟩
def zcf : List SOp := [zM 11 0,zO 12 (.call ⟨.builtin .len,#[.tmp 11],#[116]⟩),zO 13 (.move (.const (.int .i64 0)))]
instance : Live zcf := ⟨[0,3]⟩
def zce : List SOp := [zO 14 (.binOp .lss 3 (.tmp 13) (.tmp 12) 3)]
instance : Live zce := ⟨[3,11,12,13]⟩
def zcd : List SOp := [zI 15 116 11 13,zL 16 26 15,zO 5 (.alloc 26),⟨none,.store 26 (.tmp 5) (.tmp 16),none⟩]
instance : Live zcd := ⟨[3,11,12,13]⟩
def zcc : List SOp := [zF 17 26 5 0,zL 18 23 17,zO 19 (.call ⟨.builtin .len,#[.tmp 18],#[23]⟩),zO 20 (.call ⟨.builtin .min,#[.tmp 19,.const (.int .i64 16)],#[3,3]⟩),zO 21 (.move (.const (.int .i64 0)))]
instance : Live zcc := ⟨[3,5,11,12,13]⟩
def zcb : List SOp := [zO 22 (.binOp .lss 3 (.tmp 21) (.tmp 20) 3)]
instance : Live zcb := ⟨[3,5,11,12,13,20,21]⟩
def zca : List SOp := [zM 23 21,zG 6 23]
instance : Live zca := ⟨[3,5,11,12,13,20,21]⟩
def qq9 : List SOp := [zM 24 3,zM 25 6,zM 26 3,zM 27 6,zO 28 (.nilCheck (.tmp 26)),zI 29 151 28 27,zL 30 149 29,zF 31 26 5 0,zL 32 23 31,zM 33 6,zI 34 23 32 33,zL 35 3 34,zO 36 (.build 179 #[(0,.const (.int .i64 1)),(1,.tmp 35)]),zO 37 (.buildSlice 149 1 #[(0,.tmp 36)]),zO 38 (.call ⟨.builtin .append,#[.tmp 30,.tmp 37],#[149,149]⟩),zO 39 (.nilCheck (.tmp 24)),zI 40 151 39 25,⟨none,.store 149 (.tmp 40) (.tmp 38),none⟩]
instance : Live qq9 := ⟨[3,5,6,11,12,13,20,21]⟩
instance : Rd qq9 := ⟨fun j => j == 5⟩
def qt2 : List SOp := [zO 41 (.binOp .add 3 (.tmp 21) (.const (.int .i64 1)) 3),zM 21 41]
instance : Live qt2 := ⟨[3,5,11,12,13,20,21]⟩
def qt1 : List SOp := [zF 42 26 5 1,zL 43 24 42,zO 44 (.call ⟨.builtin .len,#[.tmp 43],#[24]⟩),zO 45 (.move (.const (.int .i64 0)))]
instance : Live qt1 := ⟨[3,5,11,12,13]⟩
def qt0 : List SOp := [zO 46 (.binOp .lss 3 (.tmp 45) (.tmp 44) 3)]
instance : Live qt0 := ⟨[3,11,12,13,43,44,45]⟩
def qsz : List SOp := [zI 47 24 43 45,zL 48 127 47,zO 8 (.alloc 127),⟨none,.store 127 (.tmp 8) (.tmp 48),none⟩]
instance : Live qsz := ⟨[3,11,12,13,43,44,45]⟩
def qsy : List SOp := [zF 49 127 8 0,zL 50 3 49,zO 51 (.binOp .geq 3 (.tmp 50) (.const (.int .i64 0)) 3),zM 52 51,⟨some 53,.fieldAddr 127 (.tmp 8) 0,some ((some 52),true)⟩,⟨some 54,.load 3 (.tmp 53),some ((some 52),true)⟩,⟨some 55,.binOp .lss 3 (.tmp 54) (.const (.int .i64 16)) 3,some ((some 52),true)⟩,zO 56 (.pick (.tmp 52) (.tmp 55) (.const (.bool false)))]
instance : Live qsy := ⟨[3,8,11,12,13,43,44,45]⟩
def qgf : List SOp := [zM 57 3,zF 58 127 8 0,zL 59 3 58,zM 60 3,zF 61 127 8 0,zL 62 3 61,zO 63 (.nilCheck (.tmp 60)),zI 64 151 63 62,zL 65 149 64,zF 66 127 8 1,zL 67 3 66,zF 68 127 8 2,zL 69 3 68,zO 70 (.build 179 #[(0,.tmp 67),(1,.tmp 69)]),zO 71 (.buildSlice 149 1 #[(0,.tmp 70)]),zO 72 (.call ⟨.builtin .append,#[.tmp 65,.tmp 71],#[149,149]⟩),zO 73 (.nilCheck (.tmp 57)),zI 74 151 73 59,⟨none,.store 149 (.tmp 74) (.tmp 72),none⟩]
instance : Live qgf := ⟨[3,8,11,12,13,43,44,45]⟩
instance : Rd qgf := ⟨fun j => j == 8⟩
def qsx : List SOp := [zO 75 (.binOp .add 3 (.tmp 45) (.const (.int .i64 1)) 3),zM 45 75]
instance : Live qsx := ⟨[3,11,12,13,43,44,45]⟩
def qsw : List SOp := [zO 76 (.binOp .add 3 (.tmp 13) (.const (.int .i64 1)) 3),zM 13 76]
instance : Live qsw := ⟨[3,11,12,13]⟩
def qsv : List SOp := [zM 77 3,zG 2 77]
instance : Live qsv := ⟨[3]⟩
def qbg : SC :=
 (.seq (.ops false zcb) (.seq (.cond (.tmp 22) .skip (.exit 2)) (.seq (.block 3 (.seq (.ops false zca) (.opsW [30] qq9))) (.ops false qt2))))
def qbf : SC :=
 (.seq (.ops false qt0) (.seq (.cond (.tmp 46) .skip (.exit 4)) (.seq (.block 5 (.seq (.ops false qsz) (.seq (.ops false qsy) (.cond (.tmp 56) (.opsW [65] qgf) .skip)))) (.ops false qsx))))
def q98 : SC :=
 (.seq (.ops false zce) (.seq (.cond (.tmp 14) .skip (.exit 0)) (.seq (.block 1 (.seq (.ops false zcd) (.seq (.seq (.ops false zcc) (.block 2 (.loop qbg))) (.seq (.ops false qt1) (.block 4 (.loop qbf)))))) (.ops false qsw))))
def t_k96 : SC :=
 (.seq (.ops false zch) (.seq (.ops false zcg) (.seq (.seq (.ops false zcf) (.block 0 (.loop q98))) (.seq (.ops false qsv) .ret))))
theorem it_k96 : FnIs Tryz.prog 96 78 [.tmp 2] t_k96 := ⟨Tryz.f96, _, Tryz.func96, rfl, rfl, rfl, rfl, by kernel_rfl⟩

abbrev Sn := Int × Int × Int
def qr4 (s : Sn) : AVal := .agg [.int .i64 s.1, .int .i64 s.2.1, .int .i64 s.2.2]
def q0d (l : List Sn) : List AVal := l.map qr4
theorem q03 (l : List Sn) : q0j (q0d l) = true := q4e fun _ => rfl
theorem q1f (l : List Sn) : (q0d l).length = l.length := by simp [q0d]
theorem q2e {l : List Sn} {i : Nat} {r : Sn} (h : l[i]? = some r) : (q0d l)[i]? = some (qr4 r) := by simp [q0d, h]
theorem q0w {l : List Int} {i : Nat} {r : Int} (h : l[i]? = some r) : (q05 l)[i]? = some (.int .i64 r) := by simp [q05, h, encI]
structure Pst where
 vec : List Int
 cloud : List Sn
def q0g (p : Pst) : AVal := .agg [.sl 1 (q05 p.vec), .sl 3 (q0d p.cloud)]
def q1q (l : List Pst) : List AVal := l.map q0g
theorem q0r (p : Pst) : (q0g p).stb = true := by simp [q0g, AVal.stb, q0j, q02, q03]
theorem q0b (l : List Pst) : q0j (q1q l) = true := q4e q0r
theorem q9r (l : List Pst) : (q1q l).length = l.length := by simp [q1q]
theorem qdv {l : List Pst} {i : Nat} {r : Pst} (h : l[i]? = some r) : (q1q l)[i]? = some (q0g r) := by simp [q1q, h]
abbrev Tab := List (List Rn)
def q4v (t : Tab) : List AVal := t.map fun l => .own 2 (q07 l)
theorem qhj (t : Tab) : (q4v t).length = t.length := by simp [q4v]
def q6q (t : Tab) (r : Nat) (x : Rn) : Tab := t.set r (t.getD r [] ++ [x])
theorem qa2 (t : Tab) (r : Nat) (x : Rn) : (q6q t r x).length = t.length := by simp [q6q]
theorem qhk {t : Tab} {r : Nat} (h : r < t.length) : (q4v t)[r]? = some (.own 2 (q07 (t.getD r []))) := by
 simp [q4v, h]
theorem qdt {t : Tab} {r : Nat} (h : r < t.length) : ((q4v t).set r .hole)[r]? = some .hole := by
 simp [q4v, h]
theorem qhl {t : Tab} {r : Nat} (h : r < t.length) (x : Rn) : ((q4v t).set r .hole).set r (.own 2 (q07 (t.getD r []) ++ [.agg [.int .i64 x.1, .int .i64 x.2]])) = q4v (q6q t r x) := by
 rw [List.set_set]
 simp [q4v, q6q, q07, q4h, List.map_set]
theorem q2n (K : Nat → Bool) (t : Tab) : (ABlk.cells (q4v t)).no K = true := by
 simp only [ABlk.no, List.all_eq_true]
 intro x hx
 obtain ⟨l, _, rfl⟩ := List.mem_map.1 hx
 simp only [AVal.noC, List.all_eq_true]
 intro y hy
 exact q1d (q4l (q06 l) y hy)
def q1n (v : List Int) (i : Nat) : Int := v.getD i 0
def q3l (v : List Int) (t : Tab) (i : Nat) : Tab := q6q t i (1, q1n v i)
def q5l (v : List Int) (t : Tab) : Tab := (List.range (min v.length 16)).foldl (q3l v) t
def putSn (t : Tab) (s : Sn) : Tab := if 0 ≤ s.1 ∧ s.1 < 16 then q6q t s.1.toNat s.2 else t
def q4k (c : List Sn) (t : Tab) : Tab := c.foldl putSn t
def q1k (t : Tab) (p : Pst) : Tab := q4k p.cloud (q5l p.vec t)
def q6r : Tab := List.replicate 16 []
def q0l (ps : List Pst) : Tab := ps.foldl q1k q6r
def TabLe (t : Tab) (n : Nat) : Prop := t.length = 16 ∧ ∀ r, (t.getD r []).length ≤ n
theorem TabLe.add {t : Tab} {n : Nat} (h : TabLe t n) (r : Nat) (x : Rn) : TabLe (q6q t r x) (n + 1) := by
 refine ⟨by rw [qa2, h.1], fun q => ?_⟩
 unfold q6q
 rw [List.getD_eq_getElem?_getD, List.getElem?_set]
 split
 ·split
  ·simp; exact h.2 r
  ·simp
 ·have := h.2 q
  rw [List.getD_eq_getElem?_getD] at this
  omega
theorem TabLe.mono {t : Tab} {n m : Nat} (h : TabLe t n) (hm : n ≤ m) : TabLe t m := ⟨h.1, fun r => Nat.le_trans (h.2 r) hm⟩
theorem TabLe.range {v : List Int} {t : Tab} {n : Nat} (h : TabLe t n) : ∀ i, TabLe ((List.range i).foldl (q3l v) t) (n + i)
 | 0 => h
 | i + 1 => by
  rw [List.range_succ, List.foldl_append]
  exact (TabLe.range h i).add i _
theorem TabLe.putSn {t : Tab} {n : Nat} (h : TabLe t n) (s : Sn) : TabLe (putSn t s) (n + 1) := by
 unfold Avm.putSn
 split
 ·exact h.add _ _
 ·exact h.mono (by omega)
theorem TabLe.cloud {t : Tab} {n : Nat} (h : TabLe t n) : ∀ c : List Sn, TabLe (c.foldl Avm.putSn t) (n + c.length)
 | [] => h
 | s :: c => by
  have := TabLe.cloud (h.putSn s) c
  simp only [List.foldl_cons, List.length_cons]
  exact this.mono (by omega)
def wt (p : Pst) : Nat := p.vec.length + p.cloud.length
theorem TabLe.one {t : Tab} {n : Nat} (h : TabLe t n) (p : Pst) : TabLe (q1k t p) (n + wt p) := by
 have := ((TabLe.range (v := p.vec) h (min p.vec.length 16))).cloud p.cloud
 exact this.mono (by unfold wt; omega)
theorem TabLe.all {t : Tab} {n : Nat} (h : TabLe t n) : ∀ ps : List Pst, TabLe (ps.foldl q1k t) (n + (ps.map wt).sum)
 | [] => h
 | p :: ps => by
  have := TabLe.all (h.one p) ps
  simp only [List.foldl_cons, List.map_cons, List.sum_cons]
  exact this.mono (by omega)
theorem qa5 : TabLe q6r 0 := ⟨rfl, fun r => by
 unfold q6r
 rw [List.getD_eq_getElem?_getD, List.getElem?_replicate]
 split <;> simp⟩
theorem q8r {l : List Nat} (i : Nat) : (l.take i).sum ≤ l.sum := by
 induction l generalizing i with
 | nil => simp
 | cons x l ih => cases i with
  | zero => simp
  | succ i => simp only [List.take_succ_cons, List.sum_cons]; have := ih i; omega

def qvy : List SOp := [zO 2 (.assign (.const (.slice none 0 0)))]
instance : Live qvy := ⟨[0]⟩
def qvx : List SOp := [zO 3 (.assign (.const (.slice none 0 0)))]
instance : Live qvx := ⟨[0]⟩
def qvw : List SOp := [zM 13 0,zO 14 (.call ⟨.builtin .len,#[.tmp 13],#[223]⟩),zO 15 (.move (.const (.int .i64 0)))]
instance : Live qvw := ⟨[0,3]⟩
def qvv : List SOp := [zO 16 (.binOp .lss 3 (.tmp 15) (.tmp 14) 3)]
instance : Live qvv := ⟨[3,13,14,15]⟩
def qvu : List SOp := [zI 17 223 13 15,zL 18 149 17,zG 5 18]
instance : Live qvu := ⟨[3,13,14,15]⟩
def qvt : List SOp := [zM 19 5,zO 20 (.call ⟨.builtin .len,#[.tmp 19],#[149]⟩),zO 21 (.move (.const (.int .i64 0)))]
instance : Live qvt := ⟨[3,5,13,14,15]⟩
def qvs : List SOp := [zO 22 (.binOp .lss 3 (.tmp 21) (.tmp 20) 3)]
instance : Live qvs := ⟨[3,13,14,15,19,20,21]⟩
def qvr : List SOp := [zI 23 149 19 21,zL 24 179 23,zO 7 (.alloc 179),⟨none,.store 179 (.tmp 7) (.tmp 24),none⟩]
instance : Live qvr := ⟨[3,13,14,15,19,20,21]⟩
def qvq : List SOp := [zL 26 179 7,zO 27 (.call ⟨.value (.func 155),#[.tmp 26],#[179]⟩),zM 25 27,zX 28 25 0,zX 29 25 1,zO 8 (.alloc 179),⟨none,.store 179 (.tmp 8) (.tmp 28),none⟩,zG 9 29]
instance : Live qvq := ⟨[3,7,13,14,15,19,20,21]⟩
def qk7 : List SOp := [zM 30 9]
instance : Live qk7 := ⟨[3,8,9,13,14,15,19,20,21]⟩
def qk6 : List SOp := [zM 31 3,zL 32 179 8,zO 33 (.buildSlice 149 1 #[(0,.tmp 32)]),zO 34 (.call ⟨.builtin .append,#[.tmp 31,.tmp 33],#[149,149]⟩),zG 3 34]
instance : Live qk6 := ⟨[3,8,13,14,15,19,20,21]⟩
def qk5 : List SOp := [zO 35 (.binOp .add 3 (.tmp 21) (.const (.int .i64 1)) 3),zM 21 35]
instance : Live qk5 := ⟨[3,13,14,15,19,20,21]⟩
def qk4 : List SOp := [zO 36 (.binOp .add 3 (.tmp 15) (.const (.int .i64 1)) 3),zM 15 36]
instance : Live qk4 := ⟨[3,13,14,15]⟩
def qk3 : List SOp := [zM 37 3,zO 38 (.call ⟨.value (.func 185),#[.tmp 37,.func 186],#[149,225]⟩)]
instance : Live qk3 := ⟨[3]⟩
def qk2 : List SOp := [zO 10 (.assign (.const (.slice none 0 0)))]
instance : Live qk2 := ⟨[3]⟩
def qk1 : List SOp := [zM 39 3,zO 40 (.call ⟨.builtin .len,#[.tmp 39],#[149]⟩),zO 41 (.move (.const (.int .i64 0)))]
instance : Live qk1 := ⟨[3,10]⟩
def qk0 : List SOp := [zO 42 (.binOp .lss 3 (.tmp 41) (.tmp 40) 3)]
instance : Live qk0 := ⟨[10,39,40,41]⟩
def qjz : List SOp := [zI 43 149 39 41,zL 44 179 43,zO 12 (.alloc 179),⟨none,.store 179 (.tmp 12) (.tmp 44),none⟩]
instance : Live qjz := ⟨[10,39,40,41]⟩
def qjy : List SOp := [zM 45 10,zL 46 179 12,zO 47 (.call ⟨.value (.func 187),#[.tmp 45,.tmp 46],#[149,179]⟩),zG 10 47]
instance : Live qjy := ⟨[10,12,39,40,41]⟩
def qjx : List SOp := [zO 48 (.binOp .add 3 (.tmp 41) (.const (.int .i64 1)) 3),zM 41 48]
instance : Live qjx := ⟨[10,39,40,41]⟩
def qjw : List SOp := [zM 49 10,zG 2 49]
instance : Live qjw := ⟨[10]⟩
def qih : SC :=
 (.seq (.ops false qvs) (.seq (.cond (.tmp 22) .skip (.exit 2)) (.seq (.block 3 (.seq (.ops false qvr) (.seq (.ops false qvq) (.seq (.ops false qk7) (.cond (.tmp 30) (.ops false qk6) .skip))))) (.ops false qk5))))
def qii : SC :=
 (.seq (.ops false qvv) (.seq (.cond (.tmp 16) .skip (.exit 0)) (.seq (.block 1 (.seq (.ops false qvu) (.seq (.ops false qvt) (.block 2 (.loop qih))))) (.ops false qk4))))
def qig : SC :=
 (.seq (.ops false qk0) (.seq (.cond (.tmp 42) .skip (.exit 4)) (.seq (.block 5 (.seq (.ops false qjz) (.ops false qjy))) (.ops false qjx))))
def t_k169 : SC :=
 (.seq (.ops false qvy) (.seq (.ops false qvx) (.seq (.seq (.ops false qvw) (.block 0 (.loop qii))) (.seq (.ops false qk3) (.seq (.ops false qk2) (.seq (.seq (.ops false qk1) (.block 4 (.loop qig))) (.seq (.ops false qjw) .ret)))))))
theorem it_k169 : FnIs Tryz.prog 169 50 [.tmp 2] t_k169 := ⟨Tryz.f169, _, Tryz.func169, rfl, rfl, rfl, rfl, by kernel_rfl⟩

def quv : List SOp := [zM 5 0,zO 6 (.call ⟨.builtin .len,#[.tmp 5],#[149]⟩),zG 4 6]
instance : Live quv := ⟨[0,1]⟩
def quu : List SOp := [zM 7 0,zM 8 4,zM 9 4,zO 10 (.convert 3 204 (.tmp 9)),zO 11 (.call ⟨.value (.func 164),#[.tmp 10],#[204]⟩),zM 12 1,zO 13 (.call ⟨.value (.func 196),#[.tmp 7,.const (.int .i64 0),.tmp 8,.tmp 11,.tmp 12],#[149,3,3,3,225]⟩)]
instance : Live quu := ⟨[0,1,4]⟩
def t_k185 : SC :=
 (.seq (.ops false quv) (.ops false quu))
theorem it_k185 : FnIs Tryz.prog 185 14 [] t_k185 := ⟨Tryz.f185, _, Tryz.func185, rfl, rfl, rfl, rfl, by kernel_rfl⟩

end Go.Proofs.YthejoeiecenjkaaGreat.Avm
