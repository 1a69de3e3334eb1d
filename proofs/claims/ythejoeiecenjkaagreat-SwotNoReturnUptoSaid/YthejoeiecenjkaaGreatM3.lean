/- Part 3 of the proof: lemmas. -/
import Derived.Test.YthejoeiecenjkaaGreatM2
import Derived.Test.YthejoeiecenjkaaGreatProg
import Derived.KernelRfl
import Derived.Shelf.SlSortCmp.NoneTotal
set_option maxRecDepth 100000
set_option maxHeartbeats 4000000
set_option linter.unusedVariables false
set_option linter.unusedSimpArgs false
set_option linter.unusedSectionVars false
set_option linter.defProp false
namespace Go.Proofs.YthejoeiecenjkaaGreat.Avm
open Go.Proofs
section
open Go.Proofs Go.Shelf Go.RowKit Go.Lib Go.Sort
def qdy : Go.Shelf.Ren := ⟨fun | 6 => 185 | 15 => 164 | 14 => 196 | 28 => 182 | 29 => 183 | 20 => 198 | 21 => 199 | 22 => 200 | 23 => 201 | 24 => 202 | 25 => 203 | 26 => 204 | 27 => 205 | 46 => 206 | 47 => 189 | 48 => 190 | 49 => 207 | 50 => 208 | 57 => 209 | n => n, fun | 22 => 149 | 24 => 179 | 25 => 225 | 3 => 3 | 39 => 204 | 0 => 0 | 53 => 220 | 55 => 79 | 4 => 4 | 46 => 213 | 45 => 212 | 50 => 217 | 5 => 5 | 9 => 9 | 66 => 227 | 70 => 231 | 76 => 234 | 77 => 205 | n => n, fun | n => n⟩
theorem qr5 : Go.Proofs.SlLaysF0.n6 Tryz.prog qdy where
 mixed := by kernel_rfl
 f6 := ⟨Tryz.f185.name, by decide, Tryz.func185.trans (congrArg some (by kernel_rfl))⟩
 f14 := ⟨Tryz.f196.name, by decide, Tryz.func196.trans (congrArg some (by kernel_rfl))⟩
 f15 := Tryz.func164.trans (congrArg some (by kernel_rfl))
 f20 := ⟨Tryz.f198.name, by decide, Tryz.func198.trans (congrArg some (by kernel_rfl))⟩
 f21 := ⟨Tryz.f199.name, by decide, Tryz.func199.trans (congrArg some (by kernel_rfl))⟩
 f22 := ⟨Tryz.f200.name, by decide, Tryz.func200.trans (congrArg some (by kernel_rfl))⟩
 f23 := ⟨Tryz.f201.name, by decide, Tryz.func201.trans (congrArg some (by kernel_rfl))⟩
 f24 := ⟨Tryz.f202.name, by decide, Tryz.func202.trans (congrArg some (by kernel_rfl))⟩
 f25 := ⟨Tryz.f203.name, by decide, Tryz.func203.trans (congrArg some (by kernel_rfl))⟩
 f26 := ⟨Tryz.f204.name, by decide, Tryz.func204.trans (congrArg some (by kernel_rfl))⟩
 f27 := ⟨Tryz.f205.name, by decide, Tryz.func205.trans (congrArg some (by kernel_rfl))⟩
 f28 := Tryz.func182.trans (congrArg some (by kernel_rfl))
 f29 := Tryz.func183.trans (congrArg some (by kernel_rfl))
 f46 := ⟨Tryz.f206.name, by decide, Tryz.func206.trans (congrArg some (by kernel_rfl))⟩
 f47 := Tryz.func189.trans (congrArg some (by kernel_rfl))
 f48 := Tryz.func190.trans (congrArg some (by kernel_rfl))
 f49 := ⟨Tryz.f207.name, by decide, Tryz.func207.trans (congrArg some (by kernel_rfl))⟩
 f50 := ⟨Tryz.f208.name, by decide, Tryz.func208.trans (congrArg some (by kernel_rfl))⟩
 f57 := ⟨Tryz.f209.name, by decide, Tryz.func209.trans (congrArg some (by kernel_rfl))⟩
 t0 := Tryz.underlying0
 a0 := Tryz.isAgg0
 z0 := Tryz.sizeOf0
 v0 := Tryz.zeroValue0
 t3 := Tryz.underlying3
 a3 := Tryz.isAgg3
 z3 := Tryz.sizeOf3
 v3 := Tryz.zeroValue3
 t4 := Tryz.underlying4
 a4 := Tryz.isAgg4
 z4 := Tryz.sizeOf4
 v4 := Tryz.zeroValue4
 t5 := Tryz.underlying5
 a5 := Tryz.isAgg5
 z5 := Tryz.sizeOf5
 v5 := Tryz.zeroValue5
 t9 := Tryz.underlying9
 a9 := Tryz.isAgg9
 z9 := Tryz.sizeOf9
 v9 := Tryz.zeroValue9
 t22 := Tryz.underlying149
 a22 := Tryz.isAgg149
 z22 := Tryz.sizeOf149
 v22 := Tryz.zeroValue149
 t25 := Tryz.underlying225
 a25 := Tryz.isAgg225
 z25 := Tryz.sizeOf225
 v25 := Tryz.zeroValue225
 t39 := Tryz.underlying204
 a39 := Tryz.isAgg204
 z39 := Tryz.sizeOf204
 v39 := Tryz.zeroValue204
 t45 := Tryz.underlying212
 a45 := Tryz.isAgg212
 z45 := Tryz.sizeOf212
 v45 := Tryz.zeroValue212
 t46 := Tryz.underlying213
 a46 := Tryz.isAgg213
 z46 := Tryz.sizeOf213
 v46 := Tryz.zeroValue213
 t50 := Tryz.underlying217
 a50 := Tryz.isAgg217
 z50 := Tryz.sizeOf217
 v50 := Tryz.zeroValue217
 t53 := Tryz.underlying220
 a53 := Tryz.isAgg220
 z53 := Tryz.sizeOf220
 v53 := Tryz.zeroValue220
 t55 := Tryz.underlying79
 a55 := Tryz.isAgg79
 z55 := Tryz.sizeOf79
 v55 := Tryz.zeroValue79
 t66 := Tryz.underlying227
 a66 := Tryz.isAgg227
 z66 := Tryz.sizeOf227
 v66 := Tryz.zeroValue227
 t70 := Tryz.underlying231
 a70 := Tryz.isAgg231
 z70 := Tryz.sizeOf231
 v70 := Tryz.zeroValue231
 t76 := Tryz.underlying234
 a76 := Tryz.isAgg234
 z76 := Tryz.sizeOf234
 v76 := Tryz.zeroValue234
 t77 := Tryz.underlying205
 a77 := Tryz.isAgg205
 z77 := Tryz.sizeOf205
 v77 := Tryz.zeroValue205
end
section
open Go.Proofs Go.Shelf Go.RowKit Go.Lib Go.Sort
abbrev RnOk := { r : Rn // okR r }
instance : Inhabited RnOk := ⟨⟨(1, 1), by unfold okR; decide⟩⟩
theorem FnIs.callable {P : Program} {f : FuncId} {n : Nat} {rs : List ResultVar} {sc : SC} (h : FnIs P f n rs sc) : Callable P f := by
 obtain ⟨fn, c, h1, h2, h3, _⟩ := h
 exact ⟨⟨fn, h1, h2, by simp [h3]⟩⟩
theorem qrd (l : List Rn) (hok : ∀ r ∈ l, okR r) (hl : l.length ≤ 1000000000) :
 ∃ s : List Rn, s.Perm l ∧ s.Pairwise leLo ∧ EvOwn (En Tryz.prog rfl).P 185 [.undef, .fn 186 []] 0 2 (q08 l) false (.tup []) (q08 s) := by
 have hlt : ∀ x y : RnOk, ltOf (fun x y : RnOk => x.1.1 - y.1.1) x y = decide (x.1.1 < y.1.1) := fun x y => by
  unfold ltOf
  simp only [decide_eq_decide]
  omega
 obtain ⟨s, h1, h2, h3⟩ := sortOwn (τ := RnOk) qr5 (FnIs.callable it_k185) 2 (by decide) Tryz.isAgg179 Tryz.sizeOf179 (fun x => [.int .i64 x.1.1, .int .i64 x.1.2]) (fun _ => rfl)
  (fun x y hy => by simp at hy; rcases hy with rfl | rfl <;> rfl) (fun x y => x.1.1 - y.1.1)
  ⟨fun x => by rw [hlt]; simp, fun x y z h1 h2 => by rw [hlt] at *; simp at *; omega, fun x y z h1 h2 => by rw [hlt] at *; simp at *; omega⟩
  186 (fun x y => ev_k186 x.1 y.1 (by have := x.2; unfold okR at this; omega) (by have := y.2; unfold okR at this; omega)) (l.attachWith okR hok) (by simp; omega)
 refine ⟨s.map (·.1), ?_, ?_, ?_⟩
 ·have := h1.map (·.1)
  have e0 : (l.attachWith okR hok).map (·.1) = l := List.ext_getElem (by simp) (by simp)
  rw [e0] at this
  exact this
 ·rw [List.pairwise_map]
  refine h2.imp fun {a b} h => ?_
  rw [hlt] at h
  simp at h
  exact h
 ·have e1 : (l.attachWith okR hok).map (fun x => AVal.agg [.int .i64 x.1.1, .int .i64 x.1.2]) = q08 l := by
   have : (l.attachWith okR hok).map (fun x => AVal.agg [.int .i64 x.1.1, .int .i64 x.1.2]) = ((l.attachWith okR hok).map (·.1)).map q37 := by rw [List.map_map]; rfl
   rw [this]
   simp [q08]
  have e2 : s.map (fun x => AVal.agg [.int .i64 x.1.1, .int .i64 x.1.2]) = q08 (s.map (·.1)) := by
   rw [q08, List.map_map]; rfl
  rw [e1, e2] at h3
  exact h3
theorem qpa (r : Rn) : Ev (En Tryz.prog rfl).P 155 [q37 r] (.ret (.tup [.agg [.int .i64 (max r.1 1), .int .i64 (min r.2 1000000000)], .bool (decide (max r.1 1 ≤ min r.2 1000000000))])) := ev_k155 r
def q7b (ss : List (List Rn)) : List AVal := ss.map fun l => .sl 2 (q08 l)
theorem q5m (ss : List (List Rn)) : q0j (q7b ss) = true := q4j fun l => q07 l
theorem qrn (ss : List (List Rn)) : (q7b ss).length = ss.length := by simp [q7b]
theorem q6t (l : List Rn) (a b : Int) : q08 l ++ [.agg [.int .i64 a, .int .i64 b]] = q08 (l ++ [(a, b)]) := by simp [q08, q37]
theorem qrt {l : List Rn} {i : Nat} {r : Rn} (h : l[i]? = some r) : q0v (l.take (i + 1)) = q0v (l.take i) ++ q0v [r] := by
 rw [List.take_add_one, h, q69]
 rfl
theorem zm8 {r : Rn} (h : max r.1 1 ≤ min r.2 1000000000) : q0v [r] = [(max r.1 1, min r.2 1000000000)] := by rw [q8n, if_pos (show (q4z r).1 ≤ (q4z r).2 from h)]; rfl
theorem clips_no {r : Rn} (h : ¬ max r.1 1 ≤ min r.2 1000000000) : q0v [r] = [] := by rw [q8n, if_neg (show ¬ (q4z r).1 ≤ (q4z r).2 from h)]; rfl
theorem qp6 {α : Type} {ss : List (List α)} {i : Nat} {l : List α} (h : ss[i]? = some l) : (ss.take (i + 1)).flatten = (ss.take i).flatten ++ l := by
 rw [List.take_add_one, h]
 simp
theorem qrz {s : List Rn} (hs : s.Pairwise leLo) (hok : ∀ r ∈ s, okR r) (i : Nat) : Can ((s.take i).foldl qf0 []) :=
 (qbe (out := []) (hs.sublist (List.take_sublist i s)) (fun r hr => hok r (List.mem_of_mem_take hr)) Can.nil (fun x hx => by cases hx)).1
theorem ev_k169 (ss : List (List Rn)) (hl : ss.length ≤ 900000000) (hw : ss.flatten.length ≤ 900000000) : Ev (En Tryz.prog rfl).P 169 [.sl 1 (q7b ss)] (.ret (.sl 2 (q08 (q10 ss.flatten)))) := by
 refine Ev.of_body it_k169 (by simp) (Run.start ?_)
 unfold t_k169
 have e0 := qrn ss
 (have hF := @e0; refine q01 (k:=?_); clear hF)
 refine Run.wk (Wk.own_nil 3 34 2 rfl rfl) ?_
 refine Run.while (σ := Nat) (fun i => ⟨tms [(3, .os 34 (q0v (ss.take i).flatten).length), (13, .sl 1 (q7b ss)), (14, .int .i64 ss.length), (15, .int .i64 i)], mms [(34, .arr (q0v (ss.take i).flatten).length 2 (q08 (q0v (ss.take i).flatten)))]⟩)
  (fun i => i ≤ ss.length) (fun i => ss.length - i) 0 (have hW := @q5m; q0f) (Nat.zero_le _) ?_
 intro i hi
 unfold qj1
 by_cases hlt : i < ss.length
 ·obtain ⟨row, hrow⟩ : ∃ row, ss[i]? = some row := ⟨ss[i], by simp [hlt]⟩
  have e1 : (q7b ss)[i]? = some (.sl 2 (q08 row)) := by simp [q7b, hrow]
  have e2 := q0x row
  have hft := qp6 hrow
  have hrl : (ss.take (i + 1)).flatten.length ≤ ss.flatten.length := by
   have h := List.take_append_drop (i + 1) ss
   have h2 : ss.flatten = (ss.take (i + 1)).flatten ++ (ss.drop (i + 1)).flatten := by rw [← List.flatten_append, h]
   rw [h2]; simp
  have hrl2 : row.length ≤ ss.flatten.length := by rw [hft] at hrl; simp only [List.length_append] at hrl; omega
  generalize (ss.take i).flatten = acc at hft ⊢
  (have hF := (aI @e0 (aI @e1 @e2)); refine q01 (k:=?_); clear hF)
  refine Run.while (σ := Nat) (fun j => ⟨tms [(3, .os 34 (q0v (acc ++ row.take j)).length), (13, .sl 1 (q7b ss)), (14, .int .i64 ss.length), (15, .int .i64 i), (19, .sl 2 (q08 row)), (20, .int .i64 row.length), (21, .int .i64 j)], mms [(34, .arr (q0v (acc ++ row.take j)).length 2 (q08 (q0v (acc ++ row.take j))))]⟩)
   (fun j => j ≤ row.length) (fun j => row.length - j) 0 (have hW := @q5m; q0f) (Nat.zero_le _) ?_
  intro j hj
  unfold qj0
  by_cases hjl : j < row.length
  ·obtain ⟨r, hr⟩ : ∃ r, row[j]? = some r := ⟨row[j], by simp [hjl]⟩
   have g1 : (q08 row)[j]? = some (.agg [.int .i64 r.1, .int .i64 r.2]) := q3d hr
   have hk : q0v (acc ++ row.take (j + 1)) = q0v (acc ++ row.take j) ++ q0v [r] := by rw [q69, qrt hr, q69, List.append_assoc]
   have hb : (q0v (acc ++ row.take j)).length ≤ 900000000 := by
    have h1 := qak (acc ++ row.take j)
    have h2 : (acc ++ row.take j).length ≤ (acc ++ row).length := by simp only [List.length_append, List.length_take]; omega
    rw [← hft] at h2
    omega
   have g2 := q0x (q0v (acc ++ row.take j))
   (have hF := (aI (aI @e0 @e1) (aI @e2 @g1)); refine q01 (k:=?_); clear hF)
   refine q00 [q37 r] (he := qpa r) (k:=?_)
   (focus (have hF := (aI (aI @e0 (aI @e1 @e2)) (aI @g1 (aI @g2 @q6t))); (repeat' (first | refine go1 (k:=?_) | with_reducible refine Ny.of ?_ ?_ | (refine Hyp.of ?_; intro hc; (try simp only [hc]); (try simp only [Bh] at hc)))); all_goals clear hF))
   ·have hk2 := hk.trans (by rw [zm8 hc])
    (refine Fin.nextW (j + 1) ?_ (have hW := (aI @hk2 @q5m); q0f); (try dsimp only))
    omega
   ·have hk2 := hk.trans (by rw [clips_no hc, List.append_nil])
    (refine Fin.nextW (j + 1) ?_ (have hW := (aI @hk2 @q5m); q0f); (try dsimp only))
    omega
  ·have hje : acc ++ row.take j = (ss.take (i + 1)).flatten := by rw [hft, show j = row.length by omega, List.take_length]
   rw [hje]
   (have hF := (aI @e0 (aI @e1 @e2)); refine q01 (k:=?_); clear hF)
   (refine Fin.nextW (i + 1) ?_ (have hW := @q5m; q0f); (try dsimp only))
   omega
 ·have hie : (ss.take i).flatten = ss.flatten := by rw [show i = ss.length by omega, List.take_length]
  rw [hie]
  have hcl := qak ss.flatten
  obtain ⟨s, hp, hs, hsort⟩ := qrd (q0v ss.flatten) qaj (by omega)
  have hres := z6w hs hp
  have hok : ∀ r ∈ s, okR r := fun r hr => qaj r (hp.mem_iff.1 hr)
  have hlen := hp.length_eq
  rw [← hres]
  generalize q0v ss.flatten = c at *
  (have hF := @e0; refine q01 (k:=?_); clear hF)
  refine z80 (args' := [.undef, .fn 186 []]) 0 34 rfl rfl rfl rfl rfl (q07 _) (q07 s) rfl hsort ?_
  have g0 := q0x s
  (have hF := (aI @e0 @g0); refine q01 (k:=?_); clear hF)
  refine Run.wk (Wk.own_nil 10 47 2 rfl rfl) ?_
  refine Run.while (σ := Nat) (fun i => ⟨tms [(10, .os 47 i), (39, .os 34 c.length), (40, .int .i64 s.length), (41, .int .i64 i)], mms [(34, .arr c.length 2 (q08 s)), (47, .arr i 2 (q08 ((s.take i).foldl qf0 [])))]⟩)
   (fun i => i ≤ s.length) (fun i => s.length - i) 0 (have hW := True.intro; q0f) (Nat.zero_le _) ?_
  clear hi hlt hie
  intro i hi
  unfold qiz
  by_cases hlt : i < s.length
  ·obtain ⟨r, hr⟩ : ∃ r, s[i]? = some r := ⟨s[i], by simp [hlt]⟩
   have g1 : (q08 s)[i]? = some (.agg [.int .i64 r.1, .int .i64 r.2]) := q3d hr
   have hcan := qrz hs hok i
   have hle := qgg (s.take i) []
   have hnx := q34 qf0 [] s hr
   simp only [List.length_nil, List.length_take] at hle
   generalize (s.take i).foldl qf0 [] = out at hcan hle hnx ⊢
   (have hF := (aI @e0 (aI @g0 @g1)); refine q01 (k:=?_); clear hF)
   refine z82 (args' := [.undef, q37 r]) 0 47 rfl rfl rfl rfl rfl (q07 _) (q07 _) (ev_k187 out r (fun x hx => by have := hcan.2 x hx; unfold okR at this; omega) (by omega)) ?_
   (have hF := (aI @e0 (aI @g0 @g1)); refine q01 (k:=?_); clear hF)
   (refine Fin.nextW (i + 1) ?_ (have hW := @hnx; q0f); (try dsimp only))
   omega
  ·rw [show i = s.length by omega, List.take_length]
   (have hF := (aI @e0 @g0); refine q01 (k:=?_); clear hF)
   exact qgr (.sl 2 (q08 (s.foldl qf0 [])))
theorem qeb (l : List Rn) (hl : l.length ≤ 900000000) : Ev (En Tryz.prog rfl).P 156 [.sl 2 (q08 l)] (.ret (.sl 2 (q08 (q10 l)))) := by
 refine z9g l (q10 l) ?_
 have h := ev_k169 [l] (by simp) (by simpa using hl)
 simpa [q7b] using h
end
def z20 : List SOp := [⟨some 2,.assign (.const (.int .i64 0)),none⟩,⟨some 3,.assign (.const (.slice none 0 0)),none⟩]
instance : Live z20 := ⟨[0]⟩
def z1z : List SOp := [⟨some 5,.move (.tmp 0),none⟩,⟨some 6,.call ⟨.value (.func 156),#[.tmp 5],#[149]⟩,none⟩,⟨some 4,.assign (.tmp 6),none⟩]
instance : Live z1z := ⟨[0]⟩
def z1y : List SOp := [⟨some 7,.move (.tmp 4),none⟩,⟨some 8,.call ⟨.builtin .len,#[.tmp 7],#[149]⟩,none⟩,⟨some 9,.binOp .eql 3 (.tmp 8) (.const (.int .i64 0)) 3,none⟩,⟨some 10,.move (.tmp 9),none⟩,⟨some 11,.move (.tmp 4),some ((some 10),false)⟩,⟨some 12,.indexAddr 149 (.tmp 11) (.const (.int .i64 0)),some ((some 10),false)⟩,⟨some 13,.fieldAddr 179 (.tmp 12) 0,some ((some 10),false)⟩,⟨some 14,.load 3 (.tmp 13),some ((some 10),false)⟩,⟨some 15,.binOp .neq 3 (.tmp 14) (.const (.int .i64 1)) 3,some ((some 10),false)⟩,⟨some 16,.pick (.tmp 10) (.const (.bool true)) (.tmp 15),none⟩]
instance : Live z1y := ⟨[4]⟩
def z1x : List SOp := [⟨some 17,.move (.tmp 4),none⟩,⟨some 2,.assign (.const (.int .i64 0)),none⟩,⟨some 3,.assign (.tmp 17),none⟩]
instance : Live z1x := ⟨[4]⟩
def z1w : List SOp := [⟨some 18,.move (.tmp 4),none⟩,⟨some 19,.indexAddr 149 (.tmp 18) (.const (.int .i64 0)),none⟩,⟨some 20,.fieldAddr 179 (.tmp 19) 1,none⟩,⟨some 21,.load 3 (.tmp 20),none⟩,⟨some 22,.move (.tmp 4),none⟩,⟨some 23,.slice 149 (.tmp 22) (some (.const (.int .i64 1))) none none,none⟩,⟨some 24,.call ⟨.value (.func 157),#[.tmp 23],#[149]⟩,none⟩,⟨some 2,.assign (.tmp 21),none⟩,⟨some 3,.assign (.tmp 24),none⟩]
instance : Live z1w := ⟨[4]⟩
def t_k134 : SC :=
 (.seq (.ops false z20) (.seq (.ops false z1z) (.seq (.seq (.ops false z1y) (.cond (.tmp 16) (.seq (.ops false z1x) .ret) .skip)) (.seq (.ops true z1w) .ret))))
theorem it_k134 : FnIs Tryz.prog 134 25 [.tmp 2, .tmp 3] t_k134 := ⟨Tryz.f134, _, Tryz.func134, rfl, rfl, rfl, rfl, by kernel_rfl⟩

def q1q : List Rn → Int × List Rn
 | [] => (0, [])
 | x :: r => if x.1 = 1 then (x.2, r) else (0, x :: r)
theorem qc9 {x : Rn} {r : List Rn} (h : x.1 = 1) : q1q (x :: r) = (x.2, r) := if_pos h
theorem qc8 {x : Rn} {r : List Rn} (h : ¬ x.1 = 1) : q1q (x :: r) = (0, x :: r) := if_neg h
theorem z9j (l m : List Rn) (hm : m.length ≤ 1000000000) (hN : Ev (En Tryz.prog rfl).P 156 [.sl 2 (q08 l)] (.ret (.sl 2 (q08 m)))) :
 Ev (En Tryz.prog rfl).P 134 [.sl 2 (q08 l)] (.ret (.tup [.int .i64 (q1q m).1, .sl 2 (q08 (q1q m).2)])) := by
 refine Ev.of_body it_k134 (by simp) (Run.start ?_)
 unfold t_k134
 (have hF := True.intro; refine q1l (k:=?_); clear hF)
 refine q2w (l := [.sl 2 (q08 l)]) rfl rfl (by simp [q0j, AVal.stb, q07]) hN ?_
 cases m with
 | nil =>
  have e0 : q08 [] = [] := rfl
  rw [e0]
  (have hF := True.intro; refine q1l (k:=?_); clear hF)
  exact Fin.two rfl rfl rfl rfl (.inl rfl) (.inl rfl)
 | cons x r =>
  have e0 : q08 (x :: r) = .agg [.int .i64 x.1, .int .i64 x.2] :: q08 r := rfl
  have e1 : (q08 r).length = r.length := q0x r
  have e2 : decide (((r.length + 1 : Nat) : Int) = 0) = false := by simp; omega
  have e3 : ((0 : Int) < ((r.length + 1 : Nat) : Int)) = True := by simp only [eq_iff_iff, iff_true]; omega
  by_cases c : x.1 = 1
  ·rw [qc9 c, e0]
   have d : (!decide (x.1 = 1)) = false := by simpa using c
   (have hF := (aI (aI @e1 @e2) (aI @e3 @d)); refine q1l (k:=?_); clear hF)
   have e4 : (1 ≤ r.length + 1) = True := by simp
   have hcl := ev_k157 r (by simp at hm; omega)
   have e5 : ((1 : Int).toNat) = 1 := rfl
   have e6 : (AVal.agg [.int .i64 x.1, .int .i64 x.2] :: q08 r).take (r.length + 1) = AVal.agg [.int .i64 x.1, .int .i64 x.2] :: q08 r := List.take_of_length_le (by simp [e1])
   have e7 : (q08 r).take r.length = q08 r := List.take_of_length_le (by simp [e1])
   (have hF := (aI (aI (aI @e1 @e2) (aI @e3 @e4)) (aI (aI @e5 @e6) (aI @e7 @d))); refine q1l (k:=?_); clear hF)
   refine q2w (l := [.sl 2 (q08 r)]) rfl ?hl (by simp [q0j, AVal.stb, q07]) hcl ?k
   case hl =>
    show [AVal.sl 2 ((q08 r).take r.length)] = _
    rw [e7]
   (have hF := (aI (aI @e1 @e2) (aI @e3 @d)); refine q1l (k:=?_); clear hF)
   exact Fin.two rfl rfl rfl (q07 r) (.inl rfl) (.inl rfl)
  ·rw [qc8 c, e0]
   have d : (!decide (x.1 = 1)) = true := by simpa using c
   (have hF := (aI (aI @e1 @e2) (aI @e3 @d)); refine q1l (k:=?_); clear hF)
   exact Fin.two rfl rfl rfl (q07 (x :: r)) (.inl rfl) (.inl rfl)

theorem q8d {v : List Int} {t : Tab} (i : Nat) : (List.range (i + 1)).foldl (q3s v) t = q3s v ((List.range i).foldl (q3s v) t) i := by
 rw [List.range_succ, List.foldl_append]
 rfl
theorem zjq {Q : Ex → AS → Prop} {y : SC} {k : Kont} (A11 : AVal) (h11 : A11.stb = true) (n12 i13 : Int) (p : Pst) (hp : p.vec.length ≤ 1000000000) (t : Tab) {n0 : Nat} (ht : TabLe t n0) (hn : n0 + 16 ≤ 1000000000)
 (h : Run (En Tryz.prog rfl) 78 Q y k ⟨tms [(3, .ptr 10 0), (11, A11), (12, .int .i64 n12), (13, .int .i64 i13), (5, .ptr 5 0)], mms [(10, .cells (q52 (q5s p.vec t))), (5, .cells [.sl 1 (q05 p.vec), .sl 3 (q0c p.cloud)])]⟩) :
 Run (En Tryz.prog rfl) 78 Q (.loop qc3) (.block 2 (.seq y k)) ⟨tms [(3, .ptr 10 0), (11, A11), (12, .int .i64 n12), (13, .int .i64 i13), (5, .ptr 5 0), (20, .int .i64 (min p.vec.length 16)), (21, .int .i64 0)], mms [(10, .cells (q52 t)), (5, .cells [.sl 1 (q05 p.vec), .sl 3 (q0c p.cloud)])]⟩ := by
 refine Run.range (min p.vec.length 16) (fun i => ⟨tms [(3, .ptr 10 0), (11, A11), (12, .int .i64 n12), (13, .int .i64 i13), (5, .ptr 5 0), (20, .int .i64 (min p.vec.length 16)), (21, .int .i64 i)], mms [(10, .cells (q52 ((List.range i).foldl (q3s p.vec) t))), (5, .cells [.sl 1 (q05 p.vec), .sl 3 (q0c p.cloud)])]⟩) (Wk.refl _ _) (fun i hi => ?_) ?_
 ·obtain ⟨q1, q2⟩ := TabLe.range (v := p.vec) ht i
  rw [q8d]
  generalize (List.range i).foldl (q3s p.vec) t = u at q1 q2 ⊢
  have hiv : i < p.vec.length := by omega
  have hi16 : i < 16 := by omega
  have hiu : i < u.length := by rw [q1]; exact hi16
  have e1 : ((i : Int) < min (p.vec.length : Int) 16) = True := by simp only [eq_iff_iff, iff_true]; omega
  have e2 : (0 ≤ (i : Int)) = True := by simp
  have e3 : ((i : Int) < ((16 : Nat) : Int)) = True := by simp only [eq_iff_iff, iff_true]; omega
  have e4 : (q52 u)[i]? = some (.own 2 (q08 (u.getD i []))) := qi4 hiu
  have e5 : ((q52 u).set i .hole)[i]? = some .hole := qef hiu
  have e6 := qi5 hiu (1, q1o p.vec i)
  simp only at e6
  have e7 : (q05 p.vec)[i]? = some (.int .i64 (q1o p.vec i)) := q0y (by simp [q1o, hiv])
  have e8 : (q05 p.vec).length = p.vec.length := q0g _
  have e9 : ((i : Int) < (p.vec.length : Int)) = True := by simp only [eq_iff_iff, iff_true]; omega
  have e10 : (q08 (u.getD i [])).length = (u.getD i []).length := q0x _
  have hq := q2 i
  have e11 : (((u.getD i []).length + 1) * 16 ≤ 70368744177664) = True := by simp only [eq_iff_iff, iff_true]; omega
  have e12 : ((u.getD i []).length + 1 ≤ 4611686018427387904) = True := by simp only [eq_iff_iff, iff_true]; omega
  have e13 : IntKind.i64.wrap ((i : Int) + 1) = ((i + 1 : Nat) : Int) := by rw [q3h (by omega)]; omega
  have e14 : (q52 u).length = 16 := by rw [qi3, q1]
  have e15 : (i + 1 ≤ 16) = True := by simp only [eq_iff_iff, iff_true]; omega
  unfold qc3
  (have hF := (aI @e1 @e2); refine q1l (k:=?_); clear hF)
  ((with_reducible apply toW); refine stW (fun j => j == 5) (k:=?_))
  (have hF := (aI (aI (aI (aI @e1 @e2) (aI @e3 @e4)) (aI (aI @e5 @e6) (aI @e7 @e8))) (aI (aI (aI @e9 @e10) (aI @e11 @e12)) (aI (aI @e13 @e14) (aI @e15 @List.length_set.{0})))); refine q1l (k:=?_); clear hF)
  refine Fin.next (Wk.toL _ _ ⟨rfl, rfl, rfl, rfl, rfl, rfl, rfl, trivial⟩ ⟨rfl, rfl, trivial⟩ ⟨rfl, q1f h11, rfl, rfl, rfl, rfl, rfl, trivial⟩ ⟨q2q _ _, ?_, trivial⟩)
  simp [ABlk.no, AVal.noC, AVal.no, AVal.stb, q03, q04]
 ·have e1 : (((min p.vec.length 16 : Nat) : Int) < min (p.vec.length : Int) 16) = False := by simp only [eq_iff_iff, iff_false]; omega
  unfold qc3
  (have hF := @e1; refine q1l (k:=?_); clear hF)
  exact Run.wk (Wk.keep [(3, .ptr 10 0), (11, A11), (12, .int .i64 n12), (13, .int .i64 i13), (5, .ptr 5 0)] ⟨rfl, rfl, rfl, rfl, rfl, trivial⟩) h

theorem z6t {t : Tab} {s : Sn} (h : 0 ≤ s.1 ∧ s.1 < 16) : putSn t s = q6y t s.1.toNat s.2 := if_pos h
theorem qdg {t : Tab} {s : Sn} (h : ¬ (0 ≤ s.1 ∧ s.1 < 16)) : putSn t s = t := if_neg h
theorem zjp {Q : Ex → AS → Prop} {k : Kont} (A11 : AVal) (h11 : A11.stb = true) (n12 i13 : Int) (cl : List Sn) (hp : cl.length ≤ 1000000000) (t : Tab) {n0 : Nat} (ht : TabLe t n0) (hn : n0 + cl.length ≤ 1000000000)
 (h : Fin (En Tryz.prog rfl) 78 Q k .normal ⟨upd (tms [(3, .ptr 10 0), (11, A11), (12, .int .i64 n12), (13, .int .i64 i13), (43, .sl 3 (q0c cl)), (44, .int .i64 cl.length), (45, .int .i64 cl.length)]) 46 (.bool false), mms [(10, .cells (q52 (q4o cl t)))]⟩) :
 Run (En Tryz.prog rfl) 78 Q (.loop qc2) (.block 4 k) ⟨tms [(3, .ptr 10 0), (11, A11), (12, .int .i64 n12), (13, .int .i64 i13), (43, .sl 3 (q0c cl)), (44, .int .i64 cl.length), (45, .int .i64 0)], mms [(10, .cells (q52 t))]⟩ := by
 refine Run.range cl.length (fun i => ⟨tms [(3, .ptr 10 0), (11, A11), (12, .int .i64 n12), (13, .int .i64 i13), (43, .sl 3 (q0c cl)), (44, .int .i64 cl.length), (45, .int .i64 i)], mms [(10, .cells (q52 ((cl.take i).foldl putSn t)))]⟩) (Wk.refl _ _) (fun i hi => ?_) ?_
 ·have hq0 := TabLe.cloud ht (cl.take i)
  obtain ⟨s, hs⟩ : ∃ s, cl[i]? = some s := ⟨cl[i], by simp [hi]⟩
  rw [q34 putSn t cl hs]
  generalize (cl.take i).foldl putSn t = u at hq0 ⊢
  obtain ⟨q1, q2⟩ := hq0
  have e1 : ((i : Int) < (cl.length : Int)) = True := by simp only [eq_iff_iff, iff_true]; omega
  have e2 : (0 ≤ (i : Int)) = True := by simp
  have e3 : (q0c cl)[i]? = some (.agg [.int .i64 s.1, .int .i64 s.2.1, .int .i64 s.2.2]) := q2h hs
  have e4 : (q0c cl).length = cl.length := q1h _
  have e13 : IntKind.i64.wrap ((i : Int) + 1) = ((i + 1 : Nat) : Int) := by rw [q3h (by omega)]; omega
  unfold qc2
  by_cases c1 : 0 ≤ s.1
  ·have d1 : decide (0 ≤ s.1) = true := by simpa using c1
   by_cases c2 : s.1 < 16
   ·have d2 : decide (s.1 < 16) = true := by simpa using c2
    rw [z6t ⟨c1, c2⟩]
    obtain ⟨r, hr⟩ : ∃ r : Nat, s.1 = r := ⟨s.1.toNat, by omega⟩
    have hr16 : r < 16 := by omega
    have hru : r < u.length := by rw [q1]; exact hr16
    have e5 : (q52 u)[r]? = some (.own 2 (q08 (u.getD r []))) := qi4 hru
    have e6 : ((q52 u).set r .hole)[r]? = some .hole := qef hru
    have e7 := qi5 hru s.2
    have e8 : (q08 (u.getD r [])).length = (u.getD r []).length := q0x _
    have hq := q2 r
    have hcl : (cl.take i).length ≤ cl.length := by rw [List.length_take]; omega
    have e9 : (((u.getD r []).length + 1) * 16 ≤ 70368744177664) = True := by simp only [eq_iff_iff, iff_true]; omega
    have e10 : ((u.getD r []).length + 1 ≤ 4611686018427387904) = True := by simp only [eq_iff_iff, iff_true]; omega
    have e11 : (q52 u).length = 16 := by rw [qi3, q1]
    have e12 : (r + 1 ≤ 16) = True := by simp only [eq_iff_iff, iff_true]; omega
    have e14 : ((r : Int) < ((16 : Nat) : Int)) = True := by simp only [eq_iff_iff, iff_true]; omega
    have e15 : (0 ≤ (r : Int)) = True := by simp
    rw [hr] at d1 d2 e3 ⊢
    rw [Int.toNat_natCast]
    (have hF := (aI (aI @e1 (aI @e2 @e3)) (aI @e4 (aI @d1 @d2))); refine q1l (k:=?_); clear hF)
    ((with_reducible apply toW); refine stW (fun j => j == 8) (k:=?_))
    (have hF := (aI (aI (aI (aI @e1 @e2) (aI @e3 @e4)) (aI (aI @d1 @d2) (aI @e5 (aI @e6 @e7)))) (aI (aI (aI @e8 @e9) (aI @e10 @e11)) (aI (aI @e12 @e13) (aI @e14 (aI @e15 @List.length_set.{0}))))); refine q1l (k:=?_); clear hF)
    exact Fin.next (Wk.toL _ _ ⟨rfl, rfl, rfl, rfl, rfl, rfl, rfl, trivial⟩ ⟨rfl, trivial⟩ ⟨rfl, q1f h11, rfl, rfl, q04 cl, rfl, rfl, trivial⟩ ⟨q2q _ _, trivial⟩)
   ·have d2 : decide (s.1 < 16) = false := by simpa using c2
    rw [qdg (by omega)]
    (have hF := (aI (aI @e1 (aI @e2 @e3)) (aI (aI @e4 @d1) (aI @d2 @e13))); refine q1l (k:=?_); clear hF)
    exact Fin.next (Wk.toL _ _ ⟨rfl, rfl, rfl, rfl, rfl, rfl, rfl, trivial⟩ ⟨rfl, trivial⟩ ⟨rfl, q1f h11, rfl, rfl, q04 cl, rfl, rfl, trivial⟩ ⟨q2q _ _, trivial⟩)
  ·have d1 : decide (0 ≤ s.1) = false := by simpa using c1
   rw [qdg (by omega)]
   (have hF := (aI (aI @e1 (aI @e2 @e3)) (aI @e4 (aI @d1 @e13))); refine q1l (k:=?_); clear hF)
   exact Fin.next (Wk.toL _ _ ⟨rfl, rfl, rfl, rfl, rfl, rfl, rfl, trivial⟩ ⟨rfl, trivial⟩ ⟨rfl, q1f h11, rfl, rfl, q04 cl, rfl, rfl, trivial⟩ ⟨q2q _ _, trivial⟩)
 ·have e1 : ((cl.length : Int) < (cl.length : Int)) = False := by simp
  have e3 : cl.take cl.length = cl := List.take_length
  rw [e3]
  unfold qc2
  (have hF := @e1; refine q1l (k:=?_); clear hF)
  exact h

def q1w (t : Tab) : List AVal := t.map fun l => .sl 2 (q08 l)
theorem encT_fz (M : Mem) (t : Tab) : (q52 t).map (fzc q5w M) = q1w t := by simp [q52, q1w, fzc]
theorem q1d (t : Tab) : q0j (q1w t) = true := by
 refine qct fun x hx => ?_
 obtain ⟨l, _, rfl⟩ := List.mem_map.1 hx
 exact q07 l
theorem qfy (ps : List Pst) (hl : ps.length ≤ 1000000000) (hw : (ps.map wt).sum ≤ 900000000) : Ev (En Tryz.prog rfl).P 96 [.sl 2 (q1r ps)] (.ret (.sptr (q1w (q0k ps)))) := by
 refine Ev.of_body it_k96 (by simp) (Run.start ?_)
 unfold t_k96
 have e0 : (q1r ps).length = ps.length := qaf _
 (have hF := @e0; refine q1l (k:=?_); clear hF)
 refine Run.wk (Wk.trans (Wk.own_cells (k := 10) (cs' := q52 q70) rfl rfl ?_) (Wk.toL [(3, .ptr 10 0), (11, .sl 2 (q1r ps)), (12, .int .i64 ps.length), (13, .int .i64 0)] [(10, .cells (q52 q70))] ⟨rfl, rfl, rfl, rfl, trivial⟩ ⟨rfl, trivial⟩ ⟨rfl, q0b ps, rfl, rfl, trivial⟩ ⟨q2q _ _, trivial⟩)) ?_
 ·intro i x y hx hy
  have hx' : (List.replicate 16 AVal.nil)[i]? = some x := hx
  rw [List.getElem?_replicate] at hx'
  have hy' : (List.replicate 16 (AVal.own 2 []))[i]? = some y := hy
  rw [List.getElem?_replicate] at hy'
  split at hx'
  ·rename_i h16
   rw [if_pos h16] at hy'
   cases hx'; cases hy'
   exact .inr ⟨rfl, 2, rfl⟩
  ·cases hx'
 refine Run.range ps.length (fun i => ⟨tms [(3, .ptr 10 0), (11, .sl 2 (q1r ps)), (12, .int .i64 ps.length), (13, .int .i64 i)], mms [(10, .cells (q52 ((ps.take i).foldl q1m q70)))]⟩) (Wk.refl _ _) (fun i hi => ?_) ?_
 ·have hq0 := TabLe.all qas (ps.take i)
  obtain ⟨p, hp⟩ : ∃ p, ps[i]? = some p := ⟨ps[i], by simp [hi]⟩
  rw [q34 q1m q70 ps hp]
  have hsum : ((ps.take i).map wt).sum + wt p ≤ (ps.map wt).sum := by
   have : ((ps.take (i + 1)).map wt).sum ≤ (ps.map wt).sum := by rw [List.map_take]; exact q95 _
   rw [List.take_add_one, hp] at this
   simpa using this
  generalize (ps.take i).foldl q1m q70 = u at hq0 ⊢
  generalize ((ps.take i).map wt).sum = m at hq0 hsum
  have hwt : wt p = p.vec.length + p.cloud.length := rfl
  have hv : p.vec.length ≤ 1000000000 := by omega
  have hc : p.cloud.length ≤ 1000000000 := by omega
  have e1 : ((i : Int) < (ps.length : Int)) = True := by simp only [eq_iff_iff, iff_true]; omega
  have e2 : (0 ≤ (i : Int)) = True := by simp
  have e3 : (q1r ps)[i]? = some (.agg [.sl 1 (q05 p.vec), .sl 3 (q0c p.cloud)]) := qeh hp
  have e4 : (q05 p.vec).length = p.vec.length := q0g _
  have e5 : (q0c p.cloud).length = p.cloud.length := q1h _
  have e13 : IntKind.i64.wrap ((i : Int) + 1) = ((i + 1 : Nat) : Int) := by rw [q3h (by omega)]; omega
  unfold q9p
  (have hF := (aI (aI @e0 (aI @e1 @e2)) (aI @e3 (aI @e4 @e5))); refine q1l (k:=?_); clear hF)
  refine Run.wk (Wk.toL [(3, .ptr 10 0), (11, .sl 2 (q1r ps)), (12, .int .i64 ps.length), (13, .int .i64 i), (5, .ptr 5 0), (20, .int .i64 (min p.vec.length 16)), (21, .int .i64 0)] [(10, .cells (q52 u)), (5, .cells [.sl 1 (q05 p.vec), .sl 3 (q0c p.cloud)])] ⟨rfl, rfl, rfl, rfl, rfl, rfl, rfl, trivial⟩ ⟨rfl, rfl, trivial⟩ ⟨rfl, q0b ps, rfl, rfl, rfl, rfl, rfl, trivial⟩ ⟨q2q _ _, by simp [ABlk.no, AVal.noC, AVal.no, AVal.stb, q03, q04], trivial⟩) ?_
  refine zjq (.sl 2 (q1r ps)) (q0b ps) _ _ p hv u (n0 := 0 + m) hq0 (by omega) ?_
  (have hF := (aI (aI @e0 (aI @e1 @e2)) (aI @e3 (aI @e4 @e5))); refine q1l (k:=?_); clear hF)
  refine Run.wk (Wk.toL [(3, .ptr 10 0), (11, .sl 2 (q1r ps)), (12, .int .i64 ps.length), (13, .int .i64 i), (43, .sl 3 (q0c p.cloud)), (44, .int .i64 p.cloud.length), (45, .int .i64 0)] [(10, .cells (q52 (q5s p.vec u)))] ⟨rfl, rfl, rfl, rfl, rfl, rfl, rfl, trivial⟩ ⟨rfl, trivial⟩ ⟨rfl, q0b ps, rfl, rfl, q04 _, rfl, rfl, trivial⟩ ⟨q2q _ _, trivial⟩) ?_
  refine zjp (.sl 2 (q1r ps)) (q0b ps) _ _ p.cloud hc (q5s p.vec u) (n0 := 0 + m + min p.vec.length 16) (TabLe.range hq0 _) (by omega) ?_
  (have hF := (aI (aI @e0 (aI @e1 @e2)) (aI (aI @e3 @e4) (aI @e5 @e13))); refine q1l (k:=?_); clear hF)
  exact Fin.next (Wk.toL _ _ ⟨rfl, rfl, rfl, rfl, trivial⟩ ⟨rfl, trivial⟩ ⟨rfl, q0b ps, rfl, rfl, trivial⟩ ⟨q2q _ _, trivial⟩)
 ·have e1 : ((ps.length : Int) < (ps.length : Int)) = False := by simp
  have e3 : ps.take ps.length = ps := List.take_length
  rw [e3]
  unfold q9p
  (have hF := (aI @e0 @e1); refine q1l (k:=?_); clear hF)
  refine Fin.tmp' ?_ (q1d _)
  show AVal.sptr ((((q52 (q0k ps))).map (fzc q5w _)).drop 0) = _
  rw [encT_fz]
  rfl


def lastP (p : Pst) (r : Int) : Int := if 0 ≤ r ∧ r < 16 then lastR ((q0k [p]).getD r.toNat []) else 0
theorem q1j (ps : List Pst) : TabLe (q0k ps) (ps.map wt).sum := by
 have := TabLe.all qas ps
 simpa [q0k] using this
theorem q6r {t : Tab} {r : Nat} (h : r < t.length) : (q1w t)[r]? = some (.sl 2 (q08 (t.getD r []))) := by simp [q1w, h]
theorem q5l (t : Tab) : (q1w t).length = t.length := by simp [q1w]
theorem q85 {α : Type} {l : List α} {i : Nat} {x : α} (h : l[i]? = some x) : (l.drop i)[0]? = some x := by simp [h]

section
def q7h (l : List Int) : List Int := l.mergeSort (fun x y => decide (x ≤ y))
theorem q4d (l : List Int) : (q7h l).Perm l := List.mergeSort_perm l _
theorem q4q (l : List Int) : (q7h l).Pairwise (fun x y => x ≤ y) := by
 have := List.pairwise_mergeSort (le := fun (x y : Int) => decide (x ≤ y)) (fun a b c h1 h2 => by simp at *; omega) (fun a b => by simp; omega) l
 exact this.imp fun {a b} h => by simpa using h
theorem q9s (l : List Int) : (q7h l).length = l.length := (q4d l).length_eq
def cnt (l : List Int) (m : Int) : Nat := l.countP fun x => decide (x ≤ m)
theorem q7d (m : Int) : cnt [] m = 0 := rfl
theorem q22 (x : Int) (l : List Int) (m : Int) : cnt (x :: l) m = cnt l m + if x ≤ m then 1 else 0 := by
 unfold cnt
 rw [List.countP_cons]
 simp only [decide_eq_true_eq]
theorem q8m (l l' : List Int) (m : Int) : cnt (l ++ l') m = cnt l m + cnt l' m := List.countP_append
theorem qcf {l l' : List Int} (h : l.Perm l') (m : Int) : cnt l m = cnt l' m := h.countP_eq _
theorem qel {l : List Int} {m : Int} (h : ∀ x ∈ l, x ≤ m) : cnt l m = l.length := List.countP_eq_length.2 fun x hx => by simpa using h x hx
theorem q49 {l : List Int} {m : Int} (h : ∀ x ∈ l, m < x) : cnt l m = 0 := List.countP_eq_zero.2 fun x hx => by simpa using h x hx
theorem qek : ∀ {l : List Int} {m : Int} {i : Nat}, i ≤ l.length → (∀ k, k < i → l.getD k 0 ≤ m) → (∀ k, i ≤ k → k < l.length → m < l.getD k 0) → cnt l m = i
 | [], m, i, hi, _, _ => by simp at hi; subst hi; rfl
 | x :: l, m, 0, _, _, h2 => q49 fun y hy => by
  obtain ⟨k, hk, rfl⟩ := List.getElem_of_mem hy
  have := h2 k (by omega) hk
  simpa [List.getD_eq_getElem?_getD, List.getElem?_eq_getElem hk] using this
 | x :: l, m, i + 1, hi, h1, h2 => by
  rw [q22, qek (i := i) (by simpa using hi) (fun k hk => by simpa using h1 (k + 1) (by omega)) (fun k hk hl => by simpa using h2 (k + 1) (by omega) (by simpa using hl))]
  have := h1 0 (by omega)
  simp at this
  simp [this]
def Srt (l : List Int) : Prop := ∀ a b, a ≤ b → b < l.length → l.getD a 0 ≤ l.getD b 0
theorem Srt.of {l : List Int} (h : l.Pairwise (fun x y => x ≤ y)) : Srt l := by
 intro a b hab hb
 rcases Nat.lt_or_ge a b with h' | h'
 ·have := (List.pairwise_iff_getElem.1 h) a b (by omega) hb h'
  simpa [List.getD_eq_getElem?_getD, List.getElem?_eq_getElem hb, List.getElem?_eq_getElem (show a < l.length by omega)] using this
 ·have : a = b := by omega
  subst this
  exact Int.le_refl _
theorem Srt.get_le : ∀ {l : List Int} {m : Int} {k : Nat}, l.Pairwise (fun x y => x ≤ y) → k < cnt l m → l.getD k 0 ≤ m
 | [], m, k, _, h => by simp [q7d] at h
 | x :: l, m, k, hp, h => by
  rw [List.pairwise_cons] at hp
  rw [q22] at h
  split at h
  ·rename_i hx
   cases k with
   | zero => simpa using hx
   | succ k => simpa using Srt.get_le hp.2 (by omega)
  ·rename_i hx
   have : cnt l m = 0 := q49 fun y hy => by have := hp.1 y hy; omega
   omega
theorem Srt.cnt_gt {l : List Int} {m : Int} {k : Nat} (hp : Srt l) (hk : k < l.length) (h : l.getD k 0 ≤ m) : k < cnt l m := by
 have : (l.take (k + 1)).countP (fun x => decide (x ≤ m)) = k + 1 := by
  have h1 : (l.take (k + 1)).length = k + 1 := by rw [List.length_take]; omega
  refine Eq.trans (List.countP_eq_length.2 fun x hx => ?_) h1
  obtain ⟨j, hj, rfl⟩ := List.getElem_of_mem hx
  rw [List.length_take] at hj
  rw [List.getElem_take]
  have := hp j k (by omega) hk
  rw [List.getD_eq_getElem?_getD, List.getElem?_eq_getElem (show j < l.length by omega)] at this
  simp only [Option.getD_some] at this
  simpa using Int.le_trans this h
 have h2 : cnt l m = (l.take (k + 1)).countP (fun x => decide (x ≤ m)) + (l.drop (k + 1)).countP (fun x => decide (x ≤ m)) := by
  rw [← List.countP_append, List.take_append_drop]
  rfl
 omega
structure Sw where
 t : List Int
 deep : Int
 i : Nat
 j : Nat
def swIn (ins : List Int) (s : Sw) : Sw := ⟨if s.deep = 0 then s.t ++ [ins.getD s.i 0] else s.t, s.deep + 1, s.i + 1, s.j⟩
def swOut (outs : List Int) (s : Sw) : Sw := ⟨if s.deep - 1 = 0 then s.t ++ [outs.getD s.j 0] else s.t, s.deep - 1, s.i, s.j + 1⟩
def qgk (ins outs : List Int) (s : Sw) : Prop := s.i < ins.length ∧ ins.getD s.i 0 ≤ outs.getD s.j 0
structure SwI (ins outs : List Int) (s : Sw) : Prop where
 ij : s.j ≤ s.i
 i : s.i ≤ ins.length
 d : s.deep = (s.i : Int) - s.j
 rise : s.t.Pairwise (fun x y => x < y)
 oi : ∀ k k', k < s.j → s.i ≤ k' → k' < ins.length → outs.getD k 0 < ins.getD k' 0
 io : ∀ k k', k < s.i → s.j ≤ k' → k' < outs.length → ins.getD k 0 ≤ outs.getD k' 0
 t0 : s.deep = 0 → ∀ x ∈ s.t, 0 < s.j ∧ x ≤ outs.getD (s.j - 1) 0
 t1 : 0 < s.deep → ∀ x ∈ s.t, x ≤ ins.getD (s.i - 1) 0
 par : s.t.length % 2 = if 0 < s.deep then 1 else 0
 all : ∀ m, (∀ k, s.i ≤ k → k < ins.length → m < ins.getD k 0) → (∀ k, s.j ≤ k → k < outs.length → m < outs.getD k 0) → (cnt s.t m % 2 = 1 ↔ cnt outs m < cnt ins m)
 src : ∀ x ∈ s.t, x ∈ ins ∨ x ∈ outs
section
variable {ins outs : List Int} (hl : outs.length = ins.length) (hi : Srt ins) (ho : Srt outs) (hlt : ∀ k, k < ins.length → ins.getD k 0 < outs.getD k 0)
theorem SwI.start : SwI ins outs ⟨[], 0, 0, 0⟩ := by
 refine ⟨Nat.le_refl _, Nat.zero_le _, rfl, .nil, fun k k' h => by simp at h, fun k k' h => by simp at h, fun _ x hx => (by simp at hx), fun _ x hx => (by simp at hx), by simp, fun m h1 h2 => ?_, fun x hx => (by simp at hx)⟩
 rw [qek (l := ins) (i := 0) (Nat.zero_le _) (fun k hk => by omega) h1, qek (l := outs) (i := 0) (Nat.zero_le _) (fun k hk => by omega) h2]
 simp [q7d]
theorem z7e {l : List Int} {k : Nat} (h : k < l.length) : l.getD k 0 ∈ l := by
 rw [List.getD_eq_getElem?_getD, List.getElem?_eq_getElem h]
 simp
theorem qdh {t : List Int} {v : Int} (h : t.Pairwise (fun x y => x < y)) (hv : ∀ x ∈ t, x < v) : (t ++ [v]).Pairwise (fun x y => x < y) := by
 rw [List.pairwise_append]
 exact ⟨h, by simp, fun a ha b hb => by simp at hb; subst hb; exact hv a ha⟩
include hl hi ho hlt in
theorem SwI.stepIn {s : Sw} (h : SwI ins outs s) (ht : qgk ins outs s) : SwI ins outs (swIn ins s) := by
 obtain ⟨t, deep, i, j⟩ := s
 obtain ⟨h1, h2, h3, h4, h5, h6, h7, h8, h9, h10, h11⟩ := h
 obtain ⟨g1, g2⟩ := ht
 simp only at *
 have hjl : j < outs.length := by omega
 have low : ∀ x ∈ t, x ≤ ins.getD i 0 ∧ (deep = 0 → x < ins.getD i 0) := by
  intro x hx
  by_cases hd : deep = 0
  ·obtain ⟨q1, q2⟩ := h7 hd x hx
   have := h5 (j - 1) i (by omega) (Nat.le_refl _) g1
   omega
  ·have q := h8 (by omega) x hx
   have := hi (i - 1) i (by omega) g1
   exact ⟨by omega, fun h => absurd h hd⟩
 have hlow : ∀ x ∈ (if deep = 0 then t ++ [ins.getD i 0] else t), x ≤ ins.getD i 0 := by
  intro x hx
  split at hx
  ·rcases List.mem_append.1 hx with hx | hx
   ·exact (low x hx).1
   ·simp only [List.mem_singleton] at hx; omega
  ·exact (low x hx).1
 have hpar : (if deep = 0 then t ++ [ins.getD i 0] else t).length % 2 = 1 := by
  by_cases hd : deep = 0
  ·rw [if_pos hd]
   rw [if_neg (by omega)] at h9
   simp only [List.length_append, List.length_cons, List.length_nil]
   omega
  ·rw [if_neg hd]
   rw [if_pos (by omega)] at h9
   exact h9
 unfold swIn
 refine ⟨?_, ?_, ?_, ?_, ?_, ?_, ?_, ?_, ?_, ?_, ?_⟩ <;> simp only
 ·omega
 ·omega
 ·omega
 ·split
  ·rename_i hd
   exact qdh h4 fun x hx => (low x hx).2 hd
  ·exact h4
 ·intro k k' a b c
  exact h5 k k' a (by omega) c
 ·intro k k' a b c
  rcases Nat.lt_or_ge k i with hk | hk
  ·exact h6 k k' hk b c
  ·have : k = i := by omega
   subst this
   have := ho j k' b c
   omega
 ·intro hd
  omega
 ·intro _ x hx
  rw [Nat.add_sub_cancel]
  exact hlow x hx
 ·rw [hpar, if_pos (by omega)]
 ·intro m a b
  by_cases hm : m < ins.getD i 0
  ·have := h10 m (fun k hk hkl => by
    rcases Nat.eq_or_lt_of_le hk with rfl | hk
    ·exact hm
    ·exact a k (by omega) hkl) b
   rw [← this]
   split
   ·rw [q8m, q49 (l := [ins.getD i 0]) (by simpa using hm)]
    simp
   ·rfl
  ·rw [qel fun x hx => Int.le_trans (hlow x hx) (by omega), hpar, qek (l := ins) (i := i + 1) (by omega) (fun k hk => Int.le_trans (hi k i (by omega) g1) (by omega)) a,
    qek (l := outs) (i := j) (by omega) (fun k hk => by have := h5 k i hk (Nat.le_refl _) g1; omega) b]
   simp
   omega
 ·intro x hx
  split at hx
  ·rcases List.mem_append.1 hx with hx | hx
   ·exact h11 x hx
   ·simp only [List.mem_singleton] at hx; subst hx; exact .inl (z7e g1)
  ·exact h11 x hx
include hl hi ho hlt in
theorem SwI.stepOut {s : Sw} (h : SwI ins outs s) (hj : s.j < outs.length) (ht : ¬ qgk ins outs s) : SwI ins outs (swOut outs s) ∧ 1 ≤ s.deep := by
 obtain ⟨t, deep, i, j⟩ := s
 obtain ⟨h1, h2, h3, h4, h5, h6, h7, h8, h9, h10, h11⟩ := h
 unfold qgk at ht
 simp only at *
 have hd : 0 < deep := by
  rcases Nat.lt_or_ge j i with h | h
  ·omega
  ·exfalso
   have : i = j := by omega
   subst this
   have := hlt i (by omega)
   exact ht ⟨by omega, by omega⟩
 have low : ∀ x ∈ t, x ≤ outs.getD j 0 ∧ (deep - 1 = 0 → x < outs.getD j 0) := by
  intro x hx
  have q := h8 hd x hx
  have := h6 (i - 1) j (by omega) (Nat.le_refl _) hj
  refine ⟨by omega, fun he => ?_⟩
  have : i - 1 = j := by omega
  rw [this] at q
  have := hlt j (by omega)
  omega
 have hlow : ∀ x ∈ (if deep - 1 = 0 then t ++ [outs.getD j 0] else t), x ≤ outs.getD j 0 := by
  intro x hx
  split at hx
  ·rcases List.mem_append.1 hx with hx | hx
   ·exact (low x hx).1
   ·simp only [List.mem_singleton] at hx; omega
  ·exact (low x hx).1
 have hpar : (if deep - 1 = 0 then t ++ [outs.getD j 0] else t).length % 2 = if 0 < deep - 1 then 1 else 0 := by
  rw [if_pos hd] at h9
  by_cases he : deep - 1 = 0
  ·rw [if_pos he, if_neg (by omega)]
   simp only [List.length_append, List.length_cons, List.length_nil]
   omega
  ·rw [if_neg he, if_pos (by omega)]
   exact h9
 refine ⟨?_, by omega⟩
 unfold swOut
 refine ⟨?_, ?_, ?_, ?_, ?_, ?_, ?_, ?_, ?_, ?_, ?_⟩ <;> simp only
 ·omega
 ·omega
 ·omega
 ·split
  ·rename_i he
   exact qdh h4 fun x hx => (low x hx).2 he
  ·exact h4
 ·intro k k' a b c
  rcases Nat.lt_or_ge k j with hk | hk
  ·exact h5 k k' hk b c
  ·have : k = j := by omega
   subst this
   have q1 := hi i k' b c
   rcases Nat.lt_or_ge i ins.length with hil | hil
   ·rcases Int.lt_or_le (outs.getD k 0) (ins.getD i 0) with h | h
    ·omega
    ·exact absurd ⟨hil, h⟩ ht
   ·omega
 ·intro k k' a b c
  exact h6 k k' a (by omega) c
 ·intro he x hx
  rw [Nat.add_sub_cancel]
  exact ⟨by omega, hlow x hx⟩
 ·intro he x hx
  rw [if_neg (by omega)] at hx
  exact h8 hd x hx
 ·exact hpar
 ·intro m a b
  by_cases hm : m < outs.getD j 0
  ·have := h10 m a (fun k hk hkl => by
    rcases Nat.eq_or_lt_of_le hk with rfl | hk
    ·exact hm
    ·exact b k (by omega) hkl)
   rw [← this]
   split
   ·rw [q8m, q49 (l := [outs.getD j 0]) (by simpa using hm)]
    simp
   ·rfl
  ·rw [qel fun x hx => Int.le_trans (hlow x hx) (by omega), hpar, qek (l := outs) (i := j + 1) (by omega) (fun k hk => Int.le_trans (ho k j (by omega) hj) (by omega)) b,
    qek (l := ins) (i := i) h2 (fun k hk => by have := h6 k j hk (Nat.le_refl _) hj; omega) a]
   split
   ·simp; omega
   ·simp; omega
 ·intro x hx
  split at hx
  ·rcases List.mem_append.1 hx with hx | hx
   ·exact h11 x hx
   ·simp only [List.mem_singleton] at hx; subst hx; exact .inr (z7e hj)
  ·exact h11 x hx
end
structure Turns (q : Int → Prop) (t : List Int) : Prop where
 rise : t.Pairwise (fun x y => x < y)
 even : t.length % 2 = 0
 mem : ∀ m, q m ↔ cnt t m % 2 = 1
theorem SwI.turns {ins outs : List Int} {s : Sw} (h : SwI ins outs s) (hi : s.i = ins.length) (hj : s.j = ins.length) (hl : outs.length = ins.length) : Turns (fun m => cnt outs m < cnt ins m) s.t := by
 have hd : s.deep = 0 := by have := h.d; omega
 refine ⟨h.rise, ?_, fun m => (h.all m (fun k hk => by omega) (fun k hk => by omega)).symm⟩
 have := h.par
 rw [if_neg (by omega)] at this
 exact this
theorem Turns.iff {q q' : Int → Prop} {t : List Int} (h : Turns q t) (hq : ∀ m, q m ↔ q' m) : Turns q' t := ⟨h.rise, h.even, fun m => (hq m).symm.trans (h.mem m)⟩
theorem qpn (c : List Rn) (hc : ∀ r ∈ c, r.1 ≤ r.2) (m : Int) : cnt (c.map fun r => r.2 + 1) m ≤ cnt (c.map fun r => r.1) m ∧ (cnt (c.map fun r => r.2 + 1) m < cnt (c.map fun r => r.1) m ↔ inR c m) ∧ cnt (c.map fun r => r.2 + 1) m ≤ cnt (c.map fun r => r.1) (m - 1) := by
 induction c with
 | nil => simp [q7d, q2e]
 | cons x c ih =>
  obtain ⟨h1, h2, h4⟩ := ih fun r hr => hc r (by simp [hr])
  have h3 := hc x (by simp)
  rw [List.map_cons, List.map_cons, q22, q22, q22, q0w, ← h2]
  refine ⟨?_, ?_, ?_⟩
  ·split <;> split <;> omega
  ·split <;> split <;> omega
  ·split <;> split <;> omega
structure Sweep (c : List Rn) (ins outs : List Int) : Prop where
 pi : ins.Perm (c.map fun r => r.1)
 po : outs.Perm (c.map fun r => r.2 + 1)
 si : ins.Pairwise (fun x y => x ≤ y)
 so : outs.Pairwise (fun x y => x ≤ y)
 ok : ∀ r ∈ c, okR r
theorem Sweep.len {c : List Rn} {ins outs : List Int} (h : Sweep c ins outs) : outs.length = ins.length := by rw [h.pi.length_eq, h.po.length_eq]; simp
theorem Sweep.lt {c : List Rn} {ins outs : List Int} (h : Sweep c ins outs) (k : Nat) (hk : k < ins.length) : ins.getD k 0 < outs.getD k 0 := by
 have h1 : k < cnt outs (outs.getD k 0) := Srt.cnt_gt (Srt.of h.so) (by rw [h.len]; exact hk) (Int.le_refl _)
 rw [qcf h.po] at h1
 have h2 := (qpn c (fun r hr => (h.ok r hr).2.1) (outs.getD k 0)).2.2
 rw [← qcf h.pi] at h2
 have := Srt.get_le h.si (show k < cnt ins (outs.getD k 0 - 1) by omega)
 omega
theorem Sweep.turns {c : List Rn} {ins outs : List Int} (h : Sweep c ins outs) {s : Sw} (hs : SwI ins outs s) (hi : s.i = ins.length) (hj : s.j = ins.length) : Turns (inR c) s.t ∧ ∀ x ∈ s.t, 1 ≤ x ∧ x ≤ 1000000001 := by
 refine ⟨(hs.turns hi hj h.len).iff fun m => ?_, fun x hx => ?_⟩
 ·rw [qcf h.pi, qcf h.po]
  exact (qpn c (fun r hr => (h.ok r hr).2.1) m).2.1
 ·rcases hs.src x hx with hx | hx
  ·obtain ⟨r, hr, rfl⟩ := List.mem_map.1 (h.pi.mem_iff.1 hx)
   have := h.ok r hr
   unfold okR at this
   omega
  ·obtain ⟨r, hr, rfl⟩ := List.mem_map.1 (h.po.mem_iff.1 hx)
   have := h.ok r hr
   unfold okR at this
   omega
theorem Sweep.of (l : List Rn) : Sweep (q0v l) (q7h ((q0v l).map fun r => r.1)) (q7h ((q0v l).map fun r => r.2 + 1)) :=
 ⟨q4d _, q4d _, q4q _, q4q _, qaj⟩
end
def qwt : List SOp := [⟨some 2,.assign (.const (.slice none 0 0)),none⟩]
instance : Live qwt := ⟨[0]⟩
def qws : List SOp := [⟨some 8,.move (.tmp 0),none⟩,⟨some 9,.call ⟨.builtin .len,#[.tmp 8],#[23]⟩,none⟩,⟨some 10,.binOp .lss 3 (.tmp 9) (.const (.int .i64 2)) 3,none⟩]
instance : Live qws := ⟨[0]⟩
def qwr : List SOp := [⟨some 11,.buildSlice 23 0 #[],none⟩,⟨some 12,.move (.tmp 0),none⟩,⟨some 13,.call ⟨.builtin .append,#[.tmp 11,.tmp 12],#[23,23]⟩,none⟩,⟨some 2,.assign (.tmp 13),none⟩]
instance : Live qwr := ⟨[0]⟩
def qwq : List SOp := [⟨some 14,.move (.tmp 0),none⟩,⟨some 15,.move (.tmp 0),none⟩,⟨some 16,.call ⟨.builtin .len,#[.tmp 15],#[23]⟩,none⟩,⟨some 17,.binOp .quo 3 (.tmp 16) (.const (.int .i64 2)) 3,none⟩,⟨some 18,.slice 23 (.tmp 14) none (some (.tmp 17)) none,none⟩,⟨some 19,.call ⟨.value (.func 168),#[.tmp 18],#[23]⟩,none⟩,⟨some 3,.assign (.tmp 19),none⟩]
instance : Live qwq := ⟨[0]⟩
def qwp : List SOp := [⟨some 20,.move (.tmp 0),none⟩,⟨some 21,.move (.tmp 0),none⟩,⟨some 22,.call ⟨.builtin .len,#[.tmp 21],#[23]⟩,none⟩,⟨some 23,.binOp .quo 3 (.tmp 22) (.const (.int .i64 2)) 3,none⟩,⟨some 24,.slice 23 (.tmp 20) (some (.tmp 23)) none none,none⟩,⟨some 25,.call ⟨.value (.func 168),#[.tmp 24],#[23]⟩,none⟩,⟨some 4,.assign (.tmp 25),none⟩]
instance : Live qwp := ⟨[0,3]⟩
def qwo : List SOp := [⟨some 26,.move (.tmp 0),none⟩,⟨some 27,.call ⟨.builtin .len,#[.tmp 26],#[23]⟩,none⟩,⟨some 28,.makeSlice 23 (.const (.int .i64 0)) (.tmp 27),none⟩,⟨some 5,.assign (.tmp 28),none⟩]
instance : Live qwo := ⟨[0,3,4]⟩
def qwn : List SOp := [⟨some 6,.assign (.const (.int .i64 0)),none⟩,⟨some 7,.assign (.const (.int .i64 0)),none⟩]
instance : Live qwn := ⟨[3,4,5]⟩
def qwm : List SOp := [⟨some 29,.move (.tmp 6),none⟩,⟨some 30,.move (.tmp 3),none⟩,⟨some 31,.call ⟨.builtin .len,#[.tmp 30],#[23]⟩,none⟩,⟨some 32,.binOp .lss 3 (.tmp 29) (.tmp 31) 3,none⟩,⟨some 33,.move (.tmp 32),none⟩,⟨some 34,.move (.tmp 7),some ((some 33),false)⟩,⟨some 35,.move (.tmp 4),some ((some 33),false)⟩,⟨some 36,.call ⟨.builtin .len,#[.tmp 35],#[23]⟩,some ((some 33),false)⟩,⟨some 37,.binOp .lss 3 (.tmp 34) (.tmp 36) 3,some ((some 33),false)⟩,⟨some 38,.pick (.tmp 33) (.const (.bool true)) (.tmp 37),none⟩]
instance : Live qwm := ⟨[3,4,5,6,7]⟩
def qwl : List SOp := [⟨some 39,.move (.tmp 7),none⟩,⟨some 40,.move (.tmp 4),none⟩,⟨some 41,.call ⟨.builtin .len,#[.tmp 40],#[23]⟩,none⟩,⟨some 42,.binOp .eql 3 (.tmp 39) (.tmp 41) 3,none⟩,⟨some 43,.move (.tmp 42),none⟩,⟨some 44,.move (.tmp 6),some ((some 43),false)⟩,⟨some 45,.move (.tmp 3),some ((some 43),false)⟩,⟨some 46,.call ⟨.builtin .len,#[.tmp 45],#[23]⟩,some ((some 43),false)⟩,⟨some 47,.binOp .lss 3 (.tmp 44) (.tmp 46) 3,some ((some 43),false)⟩,⟨some 48,.move (.tmp 47),some ((some 43),false)⟩,⟨some 49,.move (.tmp 3),some ((some 48),true)⟩,⟨some 50,.move (.tmp 6),some ((some 48),true)⟩,⟨some 51,.indexAddr 23 (.tmp 49) (.tmp 50),some ((some 48),true)⟩,⟨some 52,.load 3 (.tmp 51),some ((some 48),true)⟩,⟨some 53,.move (.tmp 4),some ((some 48),true)⟩,⟨some 54,.move (.tmp 7),some ((some 48),true)⟩,⟨some 55,.indexAddr 23 (.tmp 53) (.tmp 54),some ((some 48),true)⟩,⟨some 56,.load 3 (.tmp 55),some ((some 48),true)⟩,⟨some 57,.binOp .leq 3 (.tmp 52) (.tmp 56) 3,some ((some 48),true)⟩,⟨some 58,.pick (.tmp 48) (.tmp 57) (.const (.bool false)),some ((some 43),false)⟩,⟨some 59,.pick (.tmp 43) (.const (.bool true)) (.tmp 58),none⟩]
instance : Live qwl := ⟨[3,4,5,6,7]⟩
def qkt : List SOp := [⟨some 60,.move (.tmp 5),none⟩,⟨some 61,.move (.tmp 3),none⟩,⟨some 62,.move (.tmp 6),none⟩,⟨some 63,.indexAddr 23 (.tmp 61) (.tmp 62),none⟩,⟨some 64,.load 3 (.tmp 63),none⟩,⟨some 65,.buildSlice 23 1 #[(0,.tmp 64)],none⟩,⟨some 66,.call ⟨.builtin .append,#[.tmp 60,.tmp 65],#[23,23]⟩,none⟩,⟨some 5,.assign (.tmp 66),none⟩]
instance : Live qkt := ⟨[3,4,5,6,7]⟩
def qks : List SOp := [⟨some 67,.move (.tmp 6),none⟩,⟨some 68,.binOp .add 3 (.tmp 67) (.const (.int .i64 1)) 3,none⟩,⟨some 6,.assign (.tmp 68),none⟩]
instance : Live qks := ⟨[3,4,5,6,7]⟩
def qkr : List SOp := [⟨some 69,.move (.tmp 5),none⟩,⟨some 70,.move (.tmp 4),none⟩,⟨some 71,.move (.tmp 7),none⟩,⟨some 72,.indexAddr 23 (.tmp 70) (.tmp 71),none⟩,⟨some 73,.load 3 (.tmp 72),none⟩,⟨some 74,.buildSlice 23 1 #[(0,.tmp 73)],none⟩,⟨some 75,.call ⟨.builtin .append,#[.tmp 69,.tmp 74],#[23,23]⟩,none⟩,⟨some 5,.assign (.tmp 75),none⟩]
instance : Live qkr := ⟨[3,4,5,6,7]⟩
def qkq : List SOp := [⟨some 76,.move (.tmp 7),none⟩,⟨some 77,.binOp .add 3 (.tmp 76) (.const (.int .i64 1)) 3,none⟩,⟨some 7,.assign (.tmp 77),none⟩]
instance : Live qkq := ⟨[3,4,5,6,7]⟩
def qkp : List SOp := [⟨some 78,.move (.tmp 5),none⟩,⟨some 2,.assign (.tmp 78),none⟩]
instance : Live qkp := ⟨[5]⟩
def qj2 : SC :=
 (.seq (.seq (.ops false qwm) (.cond (.tmp 38) .skip (.exit 0))) (.block 1 (.seq (.ops true qwl) (.cond (.tmp 59) (.seq (.ops false qkt) (.ops false qks)) (.seq (.ops false qkr) (.ops false qkq))))))
def zaw : SC :=
 (.seq (.ops false qwt) (.seq (.seq (.ops false qws) (.cond (.tmp 10) (.seq (.ops false qwr) .ret) .skip)) (.seq (.ops false qwq) (.seq (.ops false qwp) (.seq (.ops false qwo) (.seq (.ops false qwn) (.seq (.block 0 (.loop qj2)) (.seq (.ops false qkp) .ret))))))))
theorem zkf : FnIs Tryz.prog 168 79 [.tmp 2] zaw := ⟨Tryz.f168, _, Tryz.func168, rfl, rfl, rfl, rfl, by kernel_rfl⟩

theorem qag {l : List Int} {i : Nat} (h : i < l.length) : (q05 l)[i]? = some (.int .i64 (l.getD i 0)) := q0y (by simp [h])
theorem q6u (l : List Int) (i : Nat) : (q05 l).take i = q05 (l.take i) := by simp [q05]
theorem qb7 (l : List Int) (i : Nat) : (q05 l).drop i = q05 (l.drop i) := by simp [q05]
theorem q3w (l : List Int) (x : Int) : q05 l ++ [.int .i64 x] = q05 (l ++ [x]) := by simp [q05, encI]
theorem zlu : q05 [] = [] := rfl
def leI (x y : Int) : Bool := decide (x ≤ y)
theorem qfo {a b : List Int} {i j : Nat} (hi : i < a.length) (h : j = b.length ∨ a.getD i 0 ≤ b.getD j 0) (hj : j ≤ b.length) : List.merge (a.drop i) (b.drop j) leI = a.getD i 0 :: List.merge (a.drop (i + 1)) (b.drop j) leI := by
 rw [List.drop_eq_getElem_cons hi]
 have e : a.getD i 0 = a[i] := by simp [hi]
 rcases Nat.lt_or_ge j b.length with h' | h'
 ·rw [List.drop_eq_getElem_cons h', List.cons_merge_cons]
  have e2 : b.getD j 0 = b[j] := by simp [h']
  rw [e, e2] at h
  have h3 : a[i] ≤ b[j] := by rcases h with h | h; omega; exact h
  simp [leI, h3, e, hi]
 ·rw [List.drop_of_length_le h']
  simp [List.merge, hi]
theorem qds {a b : List Int} {i j : Nat} (hj : j < b.length) (h : i = a.length ∨ ¬ a.getD i 0 ≤ b.getD j 0) (hi : i ≤ a.length) : List.merge (a.drop i) (b.drop j) leI = b.getD j 0 :: List.merge (a.drop i) (b.drop (j + 1)) leI := by
 rw [List.drop_eq_getElem_cons hj]
 have e2 : b.getD j 0 = b[j] := by simp [hj]
 rcases Nat.lt_or_ge i a.length with h' | h'
 ·rw [List.drop_eq_getElem_cons h', List.cons_merge_cons]
  have e : a.getD i 0 = a[i] := by simp [h']
  rw [e, e2] at h
  have h3 : ¬ a[i] ≤ b[j] := by rcases h with h | h; omega; exact h
  simp [leI, h3, e2, hj]
 ·rw [List.drop_of_length_le h']
  simp [List.merge, hj]
theorem qot {l a b : List Int} (ha : a.Perm (l.take (l.length / 2))) (hb : b.Perm (l.drop (l.length / 2))) (sa : a.Pairwise (fun x y => x ≤ y)) (sb : b.Pairwise (fun x y => x ≤ y)) : List.merge a b leI = q7h l := by
 have h1 : (List.merge a b leI).Perm l := by
  refine List.Perm.trans (List.merge_perm_append leI) ?_
  refine List.Perm.trans (ha.append hb) ?_
  rw [List.take_append_drop]
 have h2 : (List.merge a b leI).Pairwise (fun x y => leI x y = true) := List.pairwise_merge (le := leI) (fun a b c h1 h2 => by simp [leI] at *; omega) (fun a b => by simp [leI]; omega) _ _ (sa.imp fun {a b} h => by simpa [leI] using h) (sb.imp fun {a b} h => by simpa [leI] using h)
 have h3 := q4q l
 refine List.Perm.eq_of_pairwise (le := fun x y => x ≤ y) (fun a b _ _ h1 h2 => by omega) (h2.imp fun {a b} h => by simpa [leI] using h) h3 (h1.trans (q4d l).symm)
theorem qcu {l : List Int} (h : l.length < 2) : q7h l = l := by
 have := q4d l
 match l, h with
 | [], _ => exact List.Perm.eq_nil this
 | [x], _ => exact List.Perm.eq_singleton this
theorem zlf (l : List Int) (hl : l.length ≤ 1000000000) : Ev (En Tryz.prog rfl).P 168 [.sl 1 (q05 l)] (.ret (.sl 1 (q05 (q7h l)))) := by
 suffices h : ∀ n l, l.length ≤ n → l.length ≤ 1000000000 → Ev (En Tryz.prog rfl).P 168 [.sl 1 (q05 l)] (.ret (.sl 1 (q05 (q7h l)))) from h _ l (Nat.le_refl _) hl
 clear hl l
 intro n
 induction n with
 | zero =>
  intro l hn hl
  have : l = [] := List.length_eq_zero_iff.1 (by omega)
  subst this
  refine Ev.of_body zkf (by simp) (Run.start ?_)
  unfold zaw
  rw [qcu (by simp), zlu]
  (have hF := True.intro; refine q01 (k:=?_); clear hF)
  exact Fin.tmp' rfl rfl
 | succ n ih =>
 intro l hn hl
 refine Ev.of_body zkf (by simp) (Run.start ?_)
 unfold zaw
 have e0 := q0g l
 have e1 : (0:Int) ≤ ((l.length / 2 : Nat) : Int) := by omega
 (focus (have hF := (aI (aI @e0 @e1) (aI @q6u @qb7)); (repeat' (first | refine go1 (k:=?_) | with_reducible refine Ny.of ?_ ?_ | (refine Hyp.of ?_; intro hc; (try simp only [hc]); (try simp only [Bh] at hc)))); all_goals clear hF))
 ·refine Fin.tmp' ?_ (q03 _)
  rw [qcu (by omega)]
  rfl
 ·have c1 := ih (l.take (l.length / 2)) (by rw [List.length_take]; omega) (by rw [List.length_take]; omega)
  have c2 := ih (l.drop (l.length / 2)) (by rw [List.length_drop]; omega) (by rw [List.length_drop]; omega)
  have l1 : (q7h (l.take (l.length / 2))).length = l.length / 2 := by rw [q9s, List.length_take]; omega
  have l2 : (q7h (l.drop (l.length / 2))).length = l.length - l.length / 2 := by rw [q9s, List.length_drop]
  have hm := qot (q4d (l.take (l.length / 2))) (q4d (l.drop (l.length / 2))) (q4q _) (q4q _)
  generalize q7h (l.take (l.length / 2)) = a at c1 l1 hm
  generalize q7h (l.drop (l.length / 2)) = b at c2 l2 hm
  refine q00 [.sl 1 (q05 (l.take (l.length / 2)))] (he := c1) (k:=?_)
  (have hF := (aI (aI @e0 @e1) (aI @q6u @qb7)); refine q01 (k:=?_); clear hF)
  refine q00 [.sl 1 (q05 (l.drop (l.length / 2)))] (he := c2) (k:=?_)
  (have hF := (aI (aI @e0 @e1) (aI @q6u @qb7)); refine q01 (k:=?_); clear hF)
  refine Run.while (σ := List Int × Nat × Nat) (fun q => ⟨tms [(3, .sl 1 (q05 a)), (4, .sl 1 (q05 b)), (5, .os 28 q.1.length), (6, .int .i64 q.2.1), (7, .int .i64 q.2.2)], mms [(28, .arr q.1.length 1 (q05 q.1))]⟩)
   (fun q => q.1.length = q.2.1 + q.2.2 ∧ q.2.1 ≤ a.length ∧ q.2.2 ≤ b.length ∧ q.1 ++ List.merge (a.drop q.2.1) (b.drop q.2.2) leI = List.merge a b leI) (fun q => a.length + b.length - q.1.length) ([], 0, 0) (have hW := True.intro; q0f) ⟨rfl, Nat.zero_le _, Nat.zero_le _, by simp⟩ ?_
  rintro ⟨s, i, j⟩ ⟨h1, h2, h3, h4⟩
  dsimp only at h1 h2 h3 h4
  unfold qj2
  have f1 := q0g a
  have f2 := q0g b
  have f3 := q0g s
  (focus (have hF := (aI (aI @f1 (aI @f2 @f3)) (aI @qag (aI @q3w @Int.natCast_inj))); (repeat' (first | refine go1 (k:=?_) | with_reducible refine Ny.of ?_ ?_ | (refine Hyp.of ?_; intro hc; (try simp only [hc]); (try simp only [Bh] at hc)))); all_goals clear hF))
  ·(refine Fin.nextW (s ++ [a.getD i 0], i + 1, j) ?_ (have hW := True.intro; q0f); (try dsimp only))
   refine ⟨⟨(by first | omega | (simp only [List.length_append, List.length_cons, List.length_nil]; omega)), (by first | omega | (simp only [List.length_append, List.length_cons, List.length_nil]; omega)), h3, ?_⟩, (by first | omega | (simp only [List.length_append, List.length_cons, List.length_nil]; omega))⟩
   rw [← h4, qfo (i := i) (j := j) (by omega) (.inl hc) h3]; simp
  ·(refine Fin.nextW (s ++ [a.getD i 0], i + 1, j) ?_ (have hW := True.intro; q0f); (try dsimp only))
   refine ⟨⟨(by first | omega | (simp only [List.length_append, List.length_cons, List.length_nil]; omega)), (by first | omega | (simp only [List.length_append, List.length_cons, List.length_nil]; omega)), h3, ?_⟩, (by first | omega | (simp only [List.length_append, List.length_cons, List.length_nil]; omega))⟩
   rw [← h4, qfo (i := i) (j := j) (by omega) (.inr hc) h3]; simp
  ·(refine Fin.nextW (s ++ [b.getD j 0], i, j + 1) ?_ (have hW := True.intro; q0f); (try dsimp only))
   refine ⟨⟨(by first | omega | (simp only [List.length_append, List.length_cons, List.length_nil]; omega)), h2, (by first | omega | (simp only [List.length_append, List.length_cons, List.length_nil]; omega)), ?_⟩, (by first | omega | (simp only [List.length_append, List.length_cons, List.length_nil]; omega))⟩
   rw [← h4, qds (i := i) (j := j) (by omega) (.inr hc) h2]; simp
  ·(refine Fin.nextW (s ++ [b.getD j 0], i, j + 1) ?_ (have hW := True.intro; q0f); (try dsimp only))
   refine ⟨⟨(by first | omega | (simp only [List.length_append, List.length_cons, List.length_nil]; omega)), h2, (by first | omega | (simp only [List.length_append, List.length_cons, List.length_nil]; omega)), ?_⟩, (by first | omega | (simp only [List.length_append, List.length_cons, List.length_nil]; omega))⟩
   rw [← h4, qds (i := i) (j := j) (by omega) (.inl (by omega)) h2]; simp
  ·have hs : s = q7h l := by
    rw [← hm, ← h4, show i = a.length by omega, show j = b.length by omega, List.drop_length, List.drop_length]
    simp [List.merge]
   rw [← hs]
   exact qgr (.sl 1 (q05 s))

def zbs : List SOp := [⟨some 2,.alloc 26,none⟩]
instance : Live zbs := ⟨[0]⟩
def zbr : List SOp := [⟨some 3,.alloc 26,none⟩]
instance : Live zbr := ⟨[0,2]⟩
def zbq : List SOp := [⟨some 11,.makeSlice 23 (.const (.int .i64 16)) (.const (.int .i64 16)),none⟩,⟨some 4,.assign (.tmp 11),none⟩]
instance : Live zbq := ⟨[0,2,3]⟩
def zbp : List SOp := [⟨some 5,.assign (.const (.int .i64 0)),none⟩]
instance : Live zbp := ⟨[0,2,3,4]⟩
def zbo : List SOp := [⟨some 12,.move (.const (.int .i64 0)),none⟩]
instance : Live zbo := ⟨[0,2,3,4,5]⟩
def zbn : List SOp := [⟨some 13,.binOp .lss 3 (.tmp 12) (.const (.int .i64 16)) 3,none⟩]
instance : Live zbn := ⟨[0,2,3,4,5,12]⟩
def zbm : List SOp := [⟨some 14,.move (.tmp 12),none⟩,⟨some 6,.assign (.tmp 14),none⟩]
instance : Live zbm := ⟨[0,2,3,4,5,12]⟩
def zbl : List SOp := [⟨some 16,.move (.tmp 0),none⟩,⟨some 17,.move (.tmp 6),none⟩,⟨some 18,.nilCheck (.tmp 16),none⟩,⟨some 19,.indexAddr 151 (.tmp 18) (.tmp 17),none⟩,⟨some 20,.load 149 (.tmp 19),none⟩,⟨some 21,.call ⟨.value (.func 134),#[.tmp 20],#[149]⟩,none⟩,⟨some 15,.move (.tmp 21),none⟩,⟨some 22,.extract (.tmp 15) 0,none⟩,⟨some 23,.extract (.tmp 15) 1,none⟩,⟨some 7,.assign (.tmp 22),none⟩,⟨some 8,.assign (.tmp 23),none⟩]
instance : Live zbl := ⟨[0,2,3,4,5,6,12]⟩
def zbk : List SOp := [⟨some 24,.move (.tmp 4),none⟩,⟨some 25,.move (.tmp 6),none⟩,⟨some 26,.move (.tmp 7),none⟩,⟨some 27,.indexAddr 23 (.tmp 24) (.tmp 25),none⟩,⟨none,.store 3 (.tmp 27) (.tmp 26),none⟩]
instance : Live zbk := ⟨[0,2,3,4,5,6,7,8,12]⟩
def qth : List SOp := [⟨some 28,.move (.tmp 7),none⟩,⟨some 29,.binOp .gtr 3 (.tmp 28) (.const (.int .i64 0)) 3,none⟩]
instance : Live qth := ⟨[0,2,3,4,5,6,7,8,12]⟩
def qtg : List SOp := [⟨some 30,.move (.tmp 6),none⟩,⟨some 31,.binOp .add 3 (.tmp 30) (.const (.int .i64 1)) 3,none⟩,⟨some 5,.assign (.tmp 31),none⟩]
instance : Live qtg := ⟨[0,2,3,4,6,8,12]⟩
def qtf : List SOp := [⟨some 32,.move (.tmp 8),none⟩,⟨some 33,.call ⟨.builtin .len,#[.tmp 32],#[149]⟩,none⟩,⟨some 34,.move (.const (.int .i64 0)),none⟩]
instance : Live qtf := ⟨[0,2,3,4,5,6,8,12]⟩
def qte : List SOp := [⟨some 35,.binOp .lss 3 (.tmp 34) (.tmp 33) 3,none⟩]
instance : Live qte := ⟨[0,2,3,4,5,6,12,32,33,34]⟩
def qtd : List SOp := [⟨some 36,.indexAddr 149 (.tmp 32) (.tmp 34),none⟩,⟨some 37,.load 179 (.tmp 36),none⟩,⟨some 10,.alloc 179,none⟩,⟨none,.store 179 (.tmp 10) (.tmp 37),none⟩]
instance : Live qtd := ⟨[0,2,3,4,5,6,12,32,33,34]⟩
def qtc : List SOp := [⟨some 38,.fieldAddr 26 (.tmp 3) 1,none⟩,⟨some 39,.load 24 (.tmp 38),none⟩,⟨some 40,.move (.tmp 6),none⟩,⟨some 41,.fieldAddr 179 (.tmp 10) 0,none⟩,⟨some 42,.load 3 (.tmp 41),none⟩,⟨some 43,.fieldAddr 179 (.tmp 10) 1,none⟩,⟨some 44,.load 3 (.tmp 43),none⟩,⟨some 45,.build 127 #[(0,.tmp 40),(1,.tmp 42),(2,.tmp 44)],none⟩,⟨some 46,.buildSlice 24 1 #[(0,.tmp 45)],none⟩,⟨some 47,.call ⟨.builtin .append,#[.tmp 39,.tmp 46],#[24,24]⟩,none⟩,⟨some 48,.fieldAddr 26 (.tmp 3) 1,none⟩,⟨none,.store 24 (.tmp 48) (.tmp 47),none⟩]
instance : Live qtc := ⟨[0,2,3,4,5,6,10,12,32,33,34]⟩
def qtb : List SOp := [⟨some 49,.binOp .add 3 (.tmp 34) (.const (.int .i64 1)) 3,none⟩,⟨some 34,.move (.tmp 49),none⟩]
instance : Live qtb := ⟨[0,2,3,4,5,6,12,32,33,34]⟩
def qta : List SOp := [⟨some 50,.binOp .add 3 (.tmp 12) (.const (.int .i64 1)) 3,none⟩,⟨some 12,.move (.tmp 50),none⟩]
instance : Live qta := ⟨[0,2,3,4,5,12]⟩
def qt9 : List SOp := [⟨some 51,.move (.tmp 5),none⟩,⟨some 52,.binOp .gtr 3 (.tmp 51) (.const (.int .i64 0)) 3,none⟩]
instance : Live qt9 := ⟨[2,3,4,5]⟩
def qt8 : List SOp := [⟨some 53,.move (.tmp 4),none⟩,⟨some 54,.move (.tmp 5),none⟩,⟨some 55,.slice 23 (.tmp 53) none (some (.tmp 54)) none,none⟩,⟨some 56,.call ⟨.value (.func 135),#[.tmp 55],#[23]⟩,none⟩,⟨some 57,.fieldAddr 26 (.tmp 3) 0,none⟩,⟨none,.store 23 (.tmp 57) (.tmp 56),none⟩]
instance : Live qt8 := ⟨[2,3,4,5]⟩
def qt7 : List SOp := [⟨some 58,.load 26 (.tmp 3),none⟩,⟨none,.store 26 (.tmp 2) (.tmp 58),none⟩]
instance : Live qt7 := ⟨[2,3]⟩
def qse : SC :=
 (.seq (.ops false qte) (.seq (.cond (.tmp 35) .skip (.exit 2)) (.seq (.block 3 (.seq (.ops false qtd) (.ops false qtc))) (.ops false qtb))))
def qsf : SC :=
 (.seq (.ops false zbn) (.seq (.cond (.tmp 13) .skip (.exit 0)) (.seq (.block 1 (.seq (.ops false zbm) (.seq (.ops false zbl) (.seq (.ops false zbk) (.seq (.seq (.ops false qth) (.cond (.tmp 29) (.ops false qtg) .skip)) (.seq (.ops false qtf) (.block 2 (.loop qse)))))))) (.ops false qta))))
def t_k97 : SC :=
 (.seq (.ops false zbs) (.seq (.ops false zbr) (.seq (.ops false zbq) (.seq (.ops false zbp) (.seq (.seq (.ops false zbo) (.block 0 (.loop qsf))) (.seq (.seq (.ops false qt9) (.cond (.tmp 52) (.ops false qt8) .skip)) (.seq (.ops false qt7) .ret)))))))
theorem it_k97 : FnIs Tryz.prog 97 59 [.cell 2 26] t_k97 := ⟨Tryz.f97, _, Tryz.func97, rfl, rfl, rfl, rfl, by kernel_rfl⟩

theorem ev_k134 (l : List Rn) (hl : l.length ≤ 900000000) : Ev (En Tryz.prog rfl).P 134 [.sl 2 (q08 l)] (.ret (.tup [.int .i64 (q1q (q10 l)).1, .sl 2 (q08 (q1q (q10 l)).2)])) :=
 z9j l (q10 l) (by have := q20 l; omega) (qeb l hl)
def q9e (t : Tab) (r : Nat) : Int := (q1q (q10 (t.getD r []))).1
def q6c (t : Tab) (r : Nat) : List Rn := (q1q (q10 (t.getD r []))).2
def q9r (r : Nat) (x : Rn) : Sn := ((r : Int), x.1, x.2)
def q68 (t : Tab) (r : Nat) : List Sn := (q6c t r).map (q9r r)
def q1v (t : Tab) (n : Nat) : List Sn := (List.range n).flatMap (q68 t)
def q32 (t : Tab) (n : Nat) : Nat := (List.range n).foldl (fun a r => if 0 < q9e t r then r + 1 else a) 0
def q2u (t : Tab) (n : Nat) : List Int := (List.range n).map (q9e t)
def qbh (t : Tab) (n : Nat) : List Int := q2u t n ++ List.replicate (16 - n) 0
def q6d (t : Tab) : Pst := ⟨(q2u t 16).take (q32 t 16), q1v t 16⟩
theorem qb0 (l : List Rn) : (q1q l).2.length ≤ l.length := by
 cases l with
 | nil => simp [q1q]
 | cons x l => simp only [q1q]; split <;> simp
theorem qk8 {t : Tab} {n : Nat} (h : TabLe t n) (r : Nat) : (q6c t r).length ≤ n := by
 have h1 := qb0 (q10 (t.getD r []))
 have h2 := q20 (t.getD r [])
 have h3 := h.2 r
 unfold q6c
 omega
theorem q7e (t : Tab) (n : Nat) : q1v t (n + 1) = q1v t n ++ q68 t n := by
 unfold q1v
 rw [List.range_succ, List.flatMap_append]
 simp
theorem qb9 {t : Tab} {n : Nat} (h : TabLe t n) : ∀ m, (q1v t m).length ≤ m * n
 | 0 => by simp [q1v]
 | m + 1 => by
  rw [q7e, List.length_append, Nat.succ_mul]
  have h1 := qb9 h m
  have h2 := qk8 h m
  simp only [q68, List.length_map]
  omega
theorem q8c (t : Tab) (n : Nat) : q32 t (n + 1) = if 0 < q9e t n then n + 1 else q32 t n := by
 unfold q32
 rw [List.range_succ, List.foldl_append]
 rfl
theorem q9t (t : Tab) : ∀ n, q32 t n ≤ n
 | 0 => Nat.le_refl _
 | n + 1 => by rw [q8c]; split; omega; have := q9t t n; omega
theorem qdx (t : Tab) (n : Nat) : q2u t (n + 1) = q2u t n ++ [q9e t n] := by
 unfold q2u
 rw [List.range_succ, List.map_append]
 rfl
theorem q33 (t : Tab) (n : Nat) : (q2u t n).length = n := by simp [q2u]
theorem qc0 (t : Tab) {n : Nat} (h : n ≤ 16) : (qbh t n).length = 16 := by
 simp [qbh, q33]; omega
theorem qs8 (t : Tab) {n : Nat} (h : n < 16) : (q05 (qbh t n))[n]? = some (.int .i64 0) := by
 refine q0y ?_
 unfold qbh
 rw [List.getElem?_append_right (by rw [q33]; exact Nat.le_refl _), q33, Nat.sub_self, List.getElem?_replicate, if_pos (by omega)]
theorem qs7 (t : Tab) {n : Nat} (h : n < 16) : (q05 (qbh t n)).set n (.int .i64 (q9e t n)) = q05 (qbh t (n + 1)) := by
 have e : (qbh t n).set n (q9e t n) = qbh t (n + 1) := by
  unfold qbh
  rw [List.set_append_right _ _ (by rw [q33]; exact Nat.le_refl _), q33, Nat.sub_self, show 16 - n = (16 - (n + 1)) + 1 by omega, List.replicate_succ, List.set_cons_zero, qdx, List.append_assoc]
  rfl
 rw [← e]
 simp [q05, encI, List.map_set]
theorem q8i (l : List Sn) (a b c : Int) : q0c l ++ [.agg [.int .i64 a, .int .i64 b, .int .i64 c]] = q0c (l ++ [(a, b, c)]) := by simp [q0c, qro]
def zbe (t : Tab) (r c : Nat) : List Sn := q1v t r ++ ((q6c t r).take c).map (q9r r)
theorem zbc (t : Tab) (r : Nat) : zbe t r 0 = q1v t r := by simp [zbe]
theorem zbd {t : Tab} {r c : Nat} {x : Rn} (hx : (q6c t r)[c]? = some x) : zbe t r (c + 1) = zbe t r c ++ [((r : Int), x.1, x.2)] := by
 unfold zbe
 rw [List.take_add_one, hx]
 simp [q9r]
theorem rowC_all (t : Tab) (r : Nat) : zbe t r (q6c t r).length = q1v t (r + 1) := by
 unfold zbe
 rw [q7e, List.take_length]
 rfl
theorem rowC_len (t : Tab) (r c : Nat) : (zbe t r c).length ≤ (q1v t r).length + (q6c t r).length := by
 simp only [zbe, List.length_append, List.length_map, List.length_take]
 omega
theorem z7k (t : Tab) {n : Nat} (ht : TabLe t n) (hn : n ≤ 50000000) : Ev (En Tryz.prog rfl).P 97 [.sptr (q1w t)] (.ret (q0h (q6d t))) := by
 refine Ev.of_body it_k97 (by simp) (Run.start ?_)
 unfold t_k97
 have h16 : (q1w t).length = 16 := by rw [q5l, ht.1]
 (have hF := @h16; refine q01 (k:=?_); clear hF)
 refine Run.wk (Wk.own_cells (k := 3) (cs' := [.own 1 [], .own 3 []]) rfl rfl ?_) ?_
 ·intro i x y hx hy
  match i with
  | 0 => simp at hx hy; subst hx; subst hy; exact .inr ⟨rfl, 1, rfl⟩
  | 1 => simp at hx hy; subst hx; subst hy; exact .inr ⟨rfl, 3, rfl⟩
  | i + 2 => simp at hx
 refine Run.while (σ := Nat) (fun r => ⟨tms [(0, .sptr (q1w t)), (2, .ptr 2 0), (3, .ptr 3 0), (4, .os 11 0), (5, .int .i64 (q32 t r)), (12, .int .i64 r)], mms [(2, .cells [.nil, .nil]), (3, .cells [.own 1 [], .own 3 (q0c (q1v t r))]), (11, .arr 0 1 (q05 (qbh t r)))]⟩)
  (fun r => r ≤ 16) (fun r => 16 - r) 0 (have hW := @q1d; q0f) (Nat.zero_le _) ?_
 intro r hr
 have g0 : (q05 (qbh t r)).length = 16 := by rw [q0g, qc0 t hr]
 have hsz := q9t t r
 unfold qsf
 by_cases hlt : r < 16
 ·have hrt : r < t.length := by rw [ht.1]; exact hlt
  have hq := ht.2 r
  have g1 := q85 (q6r hrt)
  have g2 := qs8 t hlt
  have g3 := qs7 t hlt
  have hcall := ev_k134 (t.getD r []) (by omega)
  have hrl := qk8 ht r
  have hcl := qb9 ht r
  have hcl2 : r * n ≤ 16 * n := Nat.mul_le_mul_right n hr
  have g4 := q0x (q6c t r)
  have hs1 := q8c t r
  change Ev _ _ _ (.ret (.tup [.int .i64 (q9e t r), .sl 2 (q08 (q6c t r))])) at hcall
  (have hF := (aI (aI @h16 @g0) (aI @g1 @g2)); refine q01 (k:=?_); clear hF)
  refine q00 [.sl 2 (q08 (t.getD r []))] (he := hcall) (k:=?_)
  (focus (have hF := (aI (aI @h16 (aI @g0 @g1)) (aI @g2 (aI @g3 @g4))); (repeat' (first | refine go1 (k:=?_) | with_reducible refine Ny.of ?_ ?_ | (refine Hyp.of ?_; intro hc; (try simp only [hc]); (try simp only [Bh] at hc)))); all_goals clear hF))
  all_goals
   refine Run.while (σ := Nat) (fun c => ⟨tms [(0, .sptr (q1w t)), (2, .ptr 2 0), (3, .ptr 3 0), (4, .os 11 0), (5, .int .i64 (q32 t (r + 1))), (6, .int .i64 r), (12, .int .i64 r), (32, .sl 2 (q08 (q6c t r))), (33, .int .i64 (q6c t r).length), (34, .int .i64 c)], mms [(2, .cells [.nil, .nil]), (3, .cells [.own 1 [], .own 3 (q0c (zbe t r c))]), (11, .arr 0 1 (q05 (qbh t (r + 1))))]⟩)
    (fun c => c ≤ (q6c t r).length) (fun c => (q6c t r).length - c) 0 (have hW := (aI (aI @q1d @hs1) (aI @hc (aI @g3 @zbc))); q0f) (Nat.zero_le _) ?_
   intro c hcc
   unfold qse
   by_cases hclt : c < (q6c t r).length
   ·obtain ⟨x, hx⟩ : ∃ x, (q6c t r)[c]? = some x := ⟨(q6c t r)[c], by simp [hclt]⟩
    have k1 : (q08 (q6c t r))[c]? = some (.agg [.int .i64 x.1, .int .i64 x.2]) := q3d hx
    have hnx := zbd hx
    have hcl3 := rowC_len t r c
    generalize zbe t r c = cl at hnx hcl3 ⊢
    have k2 := q1h cl
    (have hF := (aI (aI @g4 @k1) (aI @k2 @q8i)); refine q01 (k:=?_); clear hF)
    (refine Fin.nextW (c + 1) ?_ (have hW := (aI @hnx @q1d); q0f); (try dsimp only))
    omega
   ·rw [show c = (q6c t r).length by omega, rowC_all]
    (have hF := @g4; refine q01 (k:=?_); clear hF)
    (refine Fin.nextW (r + 1) ?_ (have hW := @q1d; q0f); (try dsimp only))
    omega
 ·have hre : r = 16 := by omega
  subst hre
  have hv : qbh t 16 = q2u t 16 := by simp [qbh]
  rw [hv] at g0 ⊢
  have hll := q33 t 16
  have hlz : ((q2u t 16).take (q32 t 16)).length ≤ 16 := by rw [List.length_take]; omega
  have hres : q6d t = ⟨(q2u t 16).take (q32 t 16), q1v t 16⟩ := rfl
  rw [hres]
  have hz : ¬ (0 < (q32 t 16 : Int)) → (q2u t 16).take (q32 t 16) = [] := fun h => by rw [show q32 t 16 = 0 by omega]; rfl
  refine Run.wk (Wk.freeze (k := 3) (cs := [.own 1 [], .own 3 (q0c (q1v t 16))]) rfl) ?_
  refine Run.wk (s' := ⟨tms [(0, .sptr (q1w t)), (2, .ptr 2 0), (3, .ptr 3 0), (4, .os 11 0), (5, .int .i64 (q32 t 16)), (12, .int .i64 16)], mms [(2, .cells [.nil, .nil]), (3, .cells [.sl 1 [], .sl 3 (q0c (q1v t 16))]), (11, .arr 0 1 (q05 (q2u t 16)))]⟩) (have hW := @q1d; q0f) ?_
  (focus (have hF := (aI @g0 @q6u); (repeat' (first | refine go1 (k:=?_) | with_reducible refine Ny.of ?_ ?_ | (refine Hyp.of ?_; intro hc; (try simp only [hc]); (try simp only [Bh] at hc)))); all_goals clear hF))
  ·refine q00 [.sl 1 (q05 ((q2u t 16).take (q32 t 16)))] (he := ev_k135 _ (by omega)) (k:=?_)
   (have hF := @g0; refine q01 (k:=?_); clear hF)
   exact Fin.all rfl (by simp [q0j, AVal.stb, q03, q04, fzc, q5w]) rfl
  ·have := hz hc
   rw [this]
   exact Fin.all rfl (by simp [q0j, AVal.stb, q03, q04, fzc, q5w]) rfl

theorem qk7 : ∀ {t t' : List Int}, t.Pairwise (fun x y => x < y) → t'.Pairwise (fun x y => x < y) → (∀ m, cnt t m % 2 = 1 ↔ cnt t' m % 2 = 1) → t = t'
 | [], [], _, _, _ => rfl
 | [], y :: t', _, h2, h => by
  have := (h y).2
  rw [List.pairwise_cons] at h2
  rw [q22, q49 fun x hx => h2.1 x hx, q7d] at this
  simp at this
 | x :: t, [], h1, _, h => by
  have := (h x).1
  rw [List.pairwise_cons] at h1
  rw [q22, q49 fun y hy => h1.1 y hy, q7d] at this
  simp at this
 | x :: t, y :: t', h1, h2, h => by
  rw [List.pairwise_cons] at h1 h2
  have hxy : x = y := by
   rcases Int.lt_trichotomy x y with hl | he | hl
   ·have := (h x).1
    rw [q22, q49 fun z hz => h1.1 z hz, q22, q49 (l := t') fun z hz => by have := h2.1 z hz; omega, if_pos (Int.le_refl _), if_neg (by omega)] at this
    exact absurd (this rfl) (by decide)
   ·exact he
   ·have := (h y).2
    rw [q22 y, q49 fun z hz => h2.1 z hz, q22, q49 (l := t) fun z hz => by have := h1.1 z hz; omega, if_pos (Int.le_refl _), if_neg (by omega)] at this
    exact absurd (this rfl) (by decide)
  subst hxy
  rw [qk7 h1.2 h2.2 fun m => ?_]
  have := h m
  rw [q22, q22] at this
  split at this
  ·omega
  ·omega
theorem Turns.uniq {q : Int → Prop} {t t' : List Int} (h : Turns q t) (h' : Turns q t') : t = t' := qk7 h.rise h'.rise fun m => by rw [← h.mem, ← h'.mem]
def q3z (c : List Rn) : List Int := c.flatMap fun r => [r.1, r.2 + 1]
theorem q56 (x : Rn) (c : List Rn) : q3z (x :: c) = x.1 :: (x.2 + 1) :: q3z c := rfl
theorem qiv {x : Rn} {c : List Rn} (h : Can (x :: c)) : ∀ y ∈ q3z c, x.2 + 1 < y := by
 intro y hy
 simp only [q3z, List.mem_flatMap, List.mem_cons, List.not_mem_nil, or_false] at hy
 obtain ⟨r, hr, hy⟩ := hy
 have h1 := (Can.cons_iff.1 h).2.1 r hr
 have h2 := h.2 r (by simp [hr])
 unfold sepR at h1
 unfold okR at h2
 omega
theorem qcn : ∀ {c : List Rn}, Can c → Turns (inR c) (q3z c)
 | [], _ => ⟨.nil, rfl, fun m => by simp [q3z, q7d, q2e]⟩
 | x :: c, h => by
  have ih := qcn h.tail
  have ha := qiv h
  have hx := (Can.cons_iff.1 h).1
  unfold okR at hx
  refine ⟨?_, ?_, fun m => ?_⟩
  ·rw [q56, List.pairwise_cons, List.pairwise_cons]
   refine ⟨fun y hy => ?_, fun y hy => ha y hy, ih.rise⟩
   rcases List.mem_cons.1 hy with rfl | hy
   ·omega
   ·have := ha y hy; omega
  ·rw [q56]
   have := ih.even
   simp only [List.length_cons]
   omega
  ·rw [q56, q22, q22, q0w, ih.mem]
   by_cases h1 : x.2 + 1 ≤ m
   ·rw [if_pos h1, if_pos (by omega)]
    constructor
    ·rintro (h | h)
     ·omega
     ·omega
    ·intro h; exact .inr (by omega)
   ·rw [if_neg h1, q49 (l := q3z c) fun y hy => by have := ha y hy; omega]
    by_cases h2 : x.1 ≤ m
    ·rw [if_pos h2]
     exact ⟨fun _ => rfl, fun _ => .inl (by omega)⟩
    ·rw [if_neg h2]
     constructor
     ·rintro (h | h)
      ·omega
      ·omega
     ·intro h; omega
theorem qar (c : List Rn) : (q3z c).length = 2 * c.length := by
 induction c with
 | nil => rfl
 | cons x c ih => rw [q56]; simp only [List.length_cons, ih]; omega
def q0q (l : List Rn) : List Int := q3z (q10 l)
theorem zao {l : List Rn} {t : List Int} (h : Turns (inR (q0v l)) t) : t = q0q l :=
 h.uniq ((qcn (q1e l)).iff fun m => by rw [q2s, z7s])

def qzf : List SOp := [⟨some 4,.assign (.const (.slice none 0 0)),none⟩]
instance : Live qzf := ⟨[0,1]⟩
def qze : List SOp := [⟨some 5,.assign (.const (.slice none 0 0)),none⟩,⟨some 6,.assign (.const (.slice none 0 0)),none⟩]
instance : Live qze := ⟨[0,1]⟩
def qzd : List SOp := [⟨some 7,.assign (.const (.int .i64 0)),none⟩]
instance : Live qzd := ⟨[0,1,5,6]⟩
def qzc : List SOp := [⟨some 14,.move (.tmp 7),none⟩,⟨some 15,.move (.tmp 0),none⟩,⟨some 16,.call ⟨.builtin .len,#[.tmp 15],#[23]⟩,none⟩,⟨some 17,.binOp .lss 3 (.tmp 14) (.tmp 16) 3,none⟩]
instance : Live qzc := ⟨[0,1,5,6,7]⟩
def qzb : List SOp := [⟨some 20,.move (.tmp 0),none⟩,⟨some 21,.move (.tmp 7),none⟩,⟨some 22,.indexAddr 23 (.tmp 20) (.tmp 21),none⟩,⟨some 23,.load 3 (.tmp 22),none⟩,⟨some 24,.call ⟨.builtin .max,#[.tmp 23,.const (.int .i64 1)],#[3,3]⟩,none⟩,⟨some 25,.move (.tmp 1),none⟩,⟨some 26,.move (.tmp 7),none⟩,⟨some 27,.indexAddr 23 (.tmp 25) (.tmp 26),none⟩,⟨some 28,.load 3 (.tmp 27),none⟩,⟨some 29,.call ⟨.builtin .min,#[.tmp 28,.const (.int .i64 1000000000)],#[3,3]⟩,none⟩,⟨some 8,.assign (.tmp 24),none⟩,⟨some 9,.assign (.tmp 29),none⟩]
instance : Live qzb := ⟨[0,1,5,6,7]⟩
def qza : List SOp := [⟨some 30,.move (.tmp 8),none⟩,⟨some 31,.move (.tmp 9),none⟩,⟨some 32,.binOp .leq 3 (.tmp 30) (.tmp 31) 3,none⟩]
instance : Live qza := ⟨[0,1,5,6,7,8,9]⟩
def qz9 : List SOp := [⟨some 33,.move (.tmp 5),none⟩,⟨some 34,.move (.tmp 8),none⟩,⟨some 35,.buildSlice 23 1 #[(0,.tmp 34)],none⟩,⟨some 36,.call ⟨.builtin .append,#[.tmp 33,.tmp 35],#[23,23]⟩,none⟩,⟨some 5,.assign (.tmp 36),none⟩]
instance : Live qz9 := ⟨[0,1,5,6,7,8,9]⟩
def qz8 : List SOp := [⟨some 37,.move (.tmp 6),none⟩,⟨some 38,.move (.tmp 9),none⟩,⟨some 39,.binOp .add 3 (.tmp 38) (.const (.int .i64 1)) 3,none⟩,⟨some 40,.buildSlice 23 1 #[(0,.tmp 39)],none⟩,⟨some 41,.call ⟨.builtin .append,#[.tmp 37,.tmp 40],#[23,23]⟩,none⟩,⟨some 6,.assign (.tmp 41),none⟩]
instance : Live qz8 := ⟨[0,1,5,6,7,9]⟩
def qz7 : List SOp := [⟨some 18,.move (.tmp 7),none⟩,⟨some 19,.binOp .add 3 (.tmp 18) (.const (.int .i64 1)) 3,none⟩,⟨some 7,.assign (.tmp 19),none⟩]
instance : Live qz7 := ⟨[0,1,5,6,7]⟩
def qma : List SOp := [⟨some 42,.move (.tmp 5),none⟩,⟨some 43,.call ⟨.value (.func 168),#[.tmp 42],#[23]⟩,none⟩,⟨some 5,.assign (.tmp 43),none⟩]
instance : Live qma := ⟨[5,6]⟩
def qm9 : List SOp := [⟨some 44,.move (.tmp 6),none⟩,⟨some 45,.call ⟨.value (.func 168),#[.tmp 44],#[23]⟩,none⟩,⟨some 6,.assign (.tmp 45),none⟩]
instance : Live qm9 := ⟨[5,6]⟩
def qm8 : List SOp := [⟨some 10,.assign (.const (.slice none 0 0)),none⟩]
instance : Live qm8 := ⟨[5,6]⟩
def qm7 : List SOp := [⟨some 11,.assign (.const (.int .i64 0)),none⟩,⟨some 12,.assign (.const (.int .i64 0)),none⟩]
instance : Live qm7 := ⟨[5,6,10]⟩
def qm6 : List SOp := [⟨some 13,.assign (.const (.int .i64 0)),none⟩]
instance : Live qm6 := ⟨[5,6,10,11,12]⟩
def qm5 : List SOp := [⟨some 46,.move (.tmp 13),none⟩,⟨some 47,.move (.tmp 5),none⟩,⟨some 48,.call ⟨.builtin .len,#[.tmp 47],#[23]⟩,none⟩,⟨some 49,.binOp .lss 3 (.tmp 46) (.tmp 48) 3,none⟩,⟨some 50,.move (.tmp 49),none⟩,⟨some 51,.move (.tmp 12),some ((some 50),false)⟩,⟨some 52,.move (.tmp 6),some ((some 50),false)⟩,⟨some 53,.call ⟨.builtin .len,#[.tmp 52],#[23]⟩,some ((some 50),false)⟩,⟨some 54,.binOp .lss 3 (.tmp 51) (.tmp 53) 3,some ((some 50),false)⟩,⟨some 55,.pick (.tmp 50) (.const (.bool true)) (.tmp 54),none⟩]
instance : Live qm5 := ⟨[5,6,10,11,12,13]⟩
def qm4 : List SOp := [⟨some 56,.move (.tmp 13),none⟩,⟨some 57,.move (.tmp 5),none⟩,⟨some 58,.call ⟨.builtin .len,#[.tmp 57],#[23]⟩,none⟩,⟨some 59,.binOp .lss 3 (.tmp 56) (.tmp 58) 3,none⟩,⟨some 60,.move (.tmp 59),none⟩,⟨some 61,.move (.tmp 5),some ((some 60),true)⟩,⟨some 62,.move (.tmp 13),some ((some 60),true)⟩,⟨some 63,.indexAddr 23 (.tmp 61) (.tmp 62),some ((some 60),true)⟩,⟨some 64,.load 3 (.tmp 63),some ((some 60),true)⟩,⟨some 65,.move (.tmp 6),some ((some 60),true)⟩,⟨some 66,.move (.tmp 12),some ((some 60),true)⟩,⟨some 67,.indexAddr 23 (.tmp 65) (.tmp 66),some ((some 60),true)⟩,⟨some 68,.load 3 (.tmp 67),some ((some 60),true)⟩,⟨some 69,.binOp .leq 3 (.tmp 64) (.tmp 68) 3,some ((some 60),true)⟩,⟨some 70,.pick (.tmp 60) (.tmp 69) (.const (.bool false)),none⟩]
instance : Live qm4 := ⟨[5,6,10,11,12,13]⟩
def qm3 : List SOp := [⟨some 71,.move (.tmp 11),none⟩,⟨some 72,.binOp .eql 3 (.tmp 71) (.const (.int .i64 0)) 3,none⟩]
instance : Live qm3 := ⟨[5,6,10,11,12,13]⟩
def qm2 : List SOp := [⟨some 73,.move (.tmp 10),none⟩,⟨some 74,.move (.tmp 5),none⟩,⟨some 75,.move (.tmp 13),none⟩,⟨some 76,.indexAddr 23 (.tmp 74) (.tmp 75),none⟩,⟨some 77,.load 3 (.tmp 76),none⟩,⟨some 78,.buildSlice 23 1 #[(0,.tmp 77)],none⟩,⟨some 79,.call ⟨.builtin .append,#[.tmp 73,.tmp 78],#[23,23]⟩,none⟩,⟨some 10,.assign (.tmp 79),none⟩]
instance : Live qm2 := ⟨[5,6,10,11,12,13]⟩
def qm1 : List SOp := [⟨some 80,.move (.tmp 11),none⟩,⟨some 81,.binOp .add 3 (.tmp 80) (.const (.int .i64 1)) 3,none⟩,⟨some 11,.assign (.tmp 81),none⟩]
instance : Live qm1 := ⟨[5,6,10,11,12,13]⟩
def qm0 : List SOp := [⟨some 82,.move (.tmp 13),none⟩,⟨some 83,.binOp .add 3 (.tmp 82) (.const (.int .i64 1)) 3,none⟩,⟨some 13,.assign (.tmp 83),none⟩]
instance : Live qm0 := ⟨[5,6,10,11,12,13]⟩
def qlz : List SOp := [⟨some 84,.move (.tmp 11),none⟩,⟨some 85,.binOp .sub 3 (.tmp 84) (.const (.int .i64 1)) 3,none⟩,⟨some 11,.assign (.tmp 85),none⟩]
instance : Live qlz := ⟨[5,6,10,11,12,13]⟩
def qly : List SOp := [⟨some 86,.move (.tmp 11),none⟩,⟨some 87,.binOp .eql 3 (.tmp 86) (.const (.int .i64 0)) 3,none⟩]
instance : Live qly := ⟨[5,6,10,11,12,13]⟩
def qlx : List SOp := [⟨some 88,.move (.tmp 10),none⟩,⟨some 89,.move (.tmp 6),none⟩,⟨some 90,.move (.tmp 12),none⟩,⟨some 91,.indexAddr 23 (.tmp 89) (.tmp 90),none⟩,⟨some 92,.load 3 (.tmp 91),none⟩,⟨some 93,.buildSlice 23 1 #[(0,.tmp 92)],none⟩,⟨some 94,.call ⟨.builtin .append,#[.tmp 88,.tmp 93],#[23,23]⟩,none⟩,⟨some 10,.assign (.tmp 94),none⟩]
instance : Live qlx := ⟨[5,6,10,11,12,13]⟩
def qlw : List SOp := [⟨some 95,.move (.tmp 12),none⟩,⟨some 96,.binOp .add 3 (.tmp 95) (.const (.int .i64 1)) 3,none⟩,⟨some 12,.assign (.tmp 96),none⟩]
instance : Live qlw := ⟨[5,6,10,11,12,13]⟩
def qlv : List SOp := [⟨some 97,.move (.tmp 10),none⟩,⟨some 4,.assign (.tmp 97),none⟩]
instance : Live qlv := ⟨[10]⟩
def qjb : SC :=
 (.seq (.seq (.ops false qzc) (.cond (.tmp 17) .skip (.exit 0))) (.seq (.block 1 (.seq (.ops true qzb) (.seq (.ops false qza) (.cond (.tmp 32) (.seq (.ops false qz9) (.ops false qz8)) .skip)))) (.ops false qz7)))
def qja : SC :=
 (.seq (.seq (.ops false qm5) (.cond (.tmp 55) .skip (.exit 2))) (.block 3 (.seq (.ops true qm4) (.cond (.tmp 70) (.seq (.seq (.ops false qm3) (.cond (.tmp 72) (.ops false qm2) .skip)) (.seq (.ops false qm1) (.ops false qm0))) (.seq (.ops false qlz) (.seq (.seq (.ops false qly) (.cond (.tmp 87) (.ops false qlx) .skip)) (.ops false qlw)))))))
def t_k153 : SC :=
 (.seq (.ops false qzf) (.seq (.ops false qze) (.seq (.seq (.ops false qzd) (.block 0 (.loop qjb))) (.seq (.ops false qma) (.seq (.ops false qm9) (.seq (.ops false qm8) (.seq (.ops false qm7) (.seq (.seq (.ops false qm6) (.block 2 (.loop qja))) (.seq (.ops false qlv) .ret)))))))))
theorem it_k153 : FnIs Tryz.prog 153 98 [.tmp 4] t_k153 := ⟨Tryz.f153, _, Tryz.func153, rfl, rfl, rfl, rfl, by kernel_rfl⟩

def los (l : List Rn) : List Int := l.map fun r => r.1
def his (l : List Rn) : List Int := l.map fun r => r.2
def qq8 (l : List Rn) : List Int := l.map fun r => r.2 + 1
theorem los_at {l : List Rn} {i : Nat} {r : Rn} (h : l[i]? = some r) : (q05 (los l))[i]? = some (.int .i64 r.1) := by simp [q05, los, h, encI]
theorem his_at {l : List Rn} {i : Nat} {r : Rn} (h : l[i]? = some r) : (q05 (his l))[i]? = some (.int .i64 r.2) := by simp [q05, his, h, encI]
theorem qg8 {l : List Rn} {i : Nat} {r : Rn} (h : l[i]? = some r) : q0v (l.take (i + 1)) = q0v (l.take i) ++ q0v [r] := by
 rw [List.take_add_one, h, q69]
 rfl
theorem zm9 {r : Rn} (h : max r.1 1 ≤ min r.2 1000000000) : q0v [r] = [(max r.1 1, min r.2 1000000000)] := by rw [q8n, if_pos (show (q4z r).1 ≤ (q4z r).2 from h)]; rfl
theorem z9u {r : Rn} (h : ¬ max r.1 1 ≤ min r.2 1000000000) : q0v [r] = [] := by rw [q8n, if_neg (show ¬ (q4z r).1 ≤ (q4z r).2 from h)]; rfl
theorem ev_k153 (l : List Rn) (hl : l.length ≤ 900000000) : Ev (En Tryz.prog rfl).P 153 [.sl 1 (q05 (los l)), .sl 1 (q05 (his l))] (.ret (.sl 1 (q05 (q0q l)))) := by
 refine Ev.of_body it_k153 (by simp) (Run.start ?_)
 unfold t_k153
 have e0 : (q05 (los l)).length = l.length := by simp [q05, los]
 have e1 : (q05 (his l)).length = l.length := by simp [q05, his]
 (have hF := @e0; refine q01 (k:=?_); clear hF)
 refine Run.wk (Wk.trans (Wk.own_nil 5 36 1 rfl rfl) (Wk.own_nil 6 41 1 rfl rfl)) ?_
 refine Run.while (σ := Nat) (fun i => ⟨tms [(0, .sl 1 (q05 (los l))), (1, .sl 1 (q05 (his l))), (5, .os 36 (q0v (l.take i)).length), (6, .os 41 (q0v (l.take i)).length), (7, .int .i64 i)], mms [(36, .arr (q0v (l.take i)).length 1 (q05 (los (q0v (l.take i))))), (41, .arr (q0v (l.take i)).length 1 (q05 (qq8 (q0v (l.take i)))))]⟩)
  (fun i => i ≤ l.length) (fun i => l.length - i) 0 (have hW := True.intro; q0f) (Nat.zero_le _) ?_
 intro i hi
 have hcl := qak (l.take i)
 have hcl2 : (l.take i).length ≤ l.length := by rw [List.length_take]; omega
 have e2 : (q05 (los (q0v (l.take i)))).length = (q0v (l.take i)).length := by simp [q05, los]
 have e3 : (q05 (qq8 (q0v (l.take i)))).length = (q0v (l.take i)).length := by simp [q05, qq8]
 unfold qjb
 by_cases hlt : i < l.length
 ·obtain ⟨r, hr⟩ : ∃ r, l[i]? = some r := ⟨l[i], by simp [hlt]⟩
  have e4 := los_at hr
  have e5 := his_at hr
  (focus (have hF := (aI (aI @e0 (aI @e1 @e2)) (aI (aI @e3 @e4) (aI @e5 @q3w))); (repeat' (first | refine go1 (k:=?_) | with_reducible refine Ny.of ?_ ?_ | (refine Hyp.of ?_; intro hc; (try simp only [hc]); (try simp only [Bh] at hc)))); all_goals clear hF))
  ·have hk := (qg8 hr).trans (by rw [zm9 hc])
   (refine Fin.nextW (i + 1) ?_ (Wk.toL _ _ (by repeat (first | exact trivial | refine ⟨rfl, ?_⟩ | (refine ⟨by simp [↓q72, ↓q40, ↓q5e, ↓NoM', hk, los, qq8], ?_⟩))) (by repeat (first | exact trivial | refine ⟨rfl, ?_⟩ | (refine ⟨by simp [↓q72, ↓q40, ↓q5e, ↓NoM', hk, los, qq8], ?_⟩))) (by repeat (first | exact trivial | (refine ⟨?_, ?_⟩; focus (first | rfl | (apply q1f; simp only [q0j, AVal.stb, q03, q07, q11, q04, q0s, q0b, q16, hk, los, qq8, Bool.and_true, Bool.true_and, Bool.and_self]; done))))) (by repeat (first | exact trivial | (refine ⟨?_, ?_⟩; focus (first | rfl | (apply qge; simp only [q0j, AVal.stb, q03, q07, q11, q04, q0s, q0b, q16, hk, los, qq8, Bool.and_true, Bool.true_and, Bool.and_self]; done) | exact q2q _ _ | exact qi6 _ _ | exact qi8 _ _ | (apply qal; simp only [q0j, AVal.stb, q03, q07, q11, q04, q0s, q0b, q16, hk, los, qq8, Bool.and_true, Bool.true_and, Bool.and_self]; done) | (apply qia; simp only [qib, z7u, List.all_cons, List.all_nil, q0j, AVal.stb, q03, q07, q11, q04, q0s, q0b, q16, hk, los, qq8, Bool.and_true, Bool.true_and, Bool.and_self]; done) | (simp [ABlk.no, AVal.noC, AVal.no, AVal.stb, q0j, q03, q07, q11, q04, q0s, q0b, q16, hk, los, qq8]; done)))))); (try dsimp only))
   omega
  ·have hk := (qg8 hr).trans (by rw [z9u hc, List.append_nil])
   (refine Fin.nextW (i + 1) ?_ (have hW := @hk; q0f); (try dsimp only))
   omega
 ·have hil : i = l.length := by omega
  subst hil
  rw [List.take_length] at *
  (have hF := (aI (aI @e0 @e1) (aI @e2 @e3)); refine q01 (k:=?_); clear hF)
  have hin := q9s (los (q0v l))
  have hout := q9s (qq8 (q0v l))
  have hs : Sweep (q0v l) (q7h (los (q0v l))) (q7h (qq8 (q0v l))) := Sweep.of l
  have hl1 : (los (q0v l)).length = (q0v l).length := by simp [los]
  have hl2 : (qq8 (q0v l)).length = (q0v l).length := by simp [qq8]
  refine qt3 (fun j => j == 36) [.sl 1 (q05 (los (q0v l)))] (he := zlf _ (by omega)) (k:=?_)
  (have hF := (aI (aI @e0 @e1) (aI @e2 @e3)); refine q01 (k:=?_); clear hF)
  refine qt3 (fun j => j == 41) [.sl 1 (q05 (qq8 (q0v l)))] (he := zlf _ (by omega)) (k:=?_)
  (have hF := (aI (aI @e0 @e1) (aI @e2 @e3)); refine q01 (k:=?_); clear hF)
  generalize q7h (los (q0v l)) = ins at *
  generalize q7h (qq8 (q0v l)) = outs at *
  refine Run.wk (Wk.own_nil 10 79 1 rfl rfl) ?_
  refine Run.while (σ := Sw) (fun s => ⟨tms [(5, .sl 1 (q05 ins)), (6, .sl 1 (q05 outs)), (10, .os 79 s.t.length), (11, .int .i64 s.deep), (12, .int .i64 s.j), (13, .int .i64 s.i)], mms [(79, .arr s.t.length 1 (q05 s.t))]⟩)
   (fun s => SwI ins outs s ∧ s.j ≤ outs.length ∧ s.t.length ≤ s.i + s.j) (fun s => (ins.length - s.i) + (outs.length - s.j)) ⟨[], 0, 0, 0⟩ (have hW := True.intro; q0f) ⟨SwI.start, Nat.zero_le _, Nat.zero_le _⟩ ?_
  rintro ⟨t, deep, i, j⟩ ⟨hI, hj, ht⟩
  have hd := hI.d
  have hij := hI.ij
  have hii := hI.i
  have e4 := q0g ins
  have e5 := q0g outs
  have e6 := q0g t
  dsimp only at hd hij hii hj ht ⊢
  have hlen := hs.len
  have stepIn := fun h => hI.stepIn hs.len (Srt.of hs.si) (Srt.of hs.so) hs.lt h
  have stepOut := fun h h' => hI.stepOut hs.len (Srt.of hs.si) (Srt.of hs.so) hs.lt h h'
  unfold swIn at stepIn
  unfold swOut at stepOut
  unfold qgk at stepIn stepOut
  dsimp only at stepIn stepOut
  unfold qja
  (focus (have hF := (aI (aI @e4 @e5) (aI @e6 (aI @qag @q3w))); (repeat' (first | refine go1 (k:=?_) | with_reducible refine Ny.of ?_ ?_ | (refine Hyp.of ?_; intro hc; (try simp only [hc]); (try simp only [Bh] at hc)))); all_goals clear hF))
  ·have q := stepIn ⟨by omega, by assumption⟩
   rw [if_pos hc] at q
   (refine Fin.nextW (⟨t ++ [ins.getD i 0], deep + 1, i + 1, j⟩) ?_ (have hW := True.intro; q0f); (try dsimp only))
   exact ⟨⟨q, hj, (by first | omega | (simp only [List.length_append, List.length_cons, List.length_nil]; omega))⟩, (by first | omega | (simp only [List.length_append, List.length_cons, List.length_nil]; omega))⟩
  ·have q := stepIn ⟨by omega, by assumption⟩
   rw [if_neg hc] at q
   (refine Fin.nextW (⟨t, deep + 1, i + 1, j⟩) ?_ (have hW := True.intro; q0f); (try dsimp only))
   exact ⟨⟨q, hj, (by first | omega | (simp only [List.length_append, List.length_cons, List.length_nil]; omega))⟩, (by first | omega | (simp only [List.length_append, List.length_cons, List.length_nil]; omega))⟩
  ·have q := (stepOut (by omega) (by omega)).1
   rw [if_pos hc] at q
   (refine Fin.nextW (⟨t ++ [outs.getD j 0], deep - 1, i, j + 1⟩) ?_ (have hW := True.intro; q0f); (try dsimp only))
   exact ⟨⟨q, (by first | omega | (simp only [List.length_append, List.length_cons, List.length_nil]; omega)), (by first | omega | (simp only [List.length_append, List.length_cons, List.length_nil]; omega))⟩, (by first | omega | (simp only [List.length_append, List.length_cons, List.length_nil]; omega))⟩
  ·have q := (stepOut (by omega) (by omega)).1
   rw [if_neg hc] at q
   (refine Fin.nextW (⟨t, deep - 1, i, j + 1⟩) ?_ (have hW := True.intro; q0f); (try dsimp only))
   exact ⟨⟨q, (by first | omega | (simp only [List.length_append, List.length_cons, List.length_nil]; omega)), (by first | omega | (simp only [List.length_append, List.length_cons, List.length_nil]; omega))⟩, (by first | omega | (simp only [List.length_append, List.length_cons, List.length_nil]; omega))⟩
  ·have q := (stepOut (by omega) (by omega)).1
   rw [if_pos hc] at q
   (refine Fin.nextW (⟨t ++ [outs.getD j 0], deep - 1, i, j + 1⟩) ?_ (have hW := True.intro; q0f); (try dsimp only))
   exact ⟨⟨q, (by first | omega | (simp only [List.length_append, List.length_cons, List.length_nil]; omega)), (by first | omega | (simp only [List.length_append, List.length_cons, List.length_nil]; omega))⟩, (by first | omega | (simp only [List.length_append, List.length_cons, List.length_nil]; omega))⟩
  ·have q := (stepOut (by omega) (by omega)).1
   rw [if_neg hc] at q
   (refine Fin.nextW (⟨t, deep - 1, i, j + 1⟩) ?_ (have hW := True.intro; q0f); (try dsimp only))
   exact ⟨⟨q, (by first | omega | (simp only [List.length_append, List.length_cons, List.length_nil]; omega)), (by first | omega | (simp only [List.length_append, List.length_cons, List.length_nil]; omega))⟩, (by first | omega | (simp only [List.length_append, List.length_cons, List.length_nil]; omega))⟩
  ·have hq := hs.turns hI (show i = ins.length by omega) (show j = ins.length by omega)
   have hqt : t = q0q l := zao hq.1
   rw [← hqt]
   exact qgr (.sl 1 (q05 t))

def z2t : List SOp := [⟨some 1,.box 26 (.tmp 0),none⟩,⟨some 2,.alloc 168,none⟩]
instance : Live z2t := ⟨[0]⟩
def z2s : List SOp := [⟨some 3,.load 26 (.tmp 1),none⟩,⟨some 4,.buildSlice 116 1 #[(0,.tmp 3)],none⟩,⟨some 5,.call ⟨.value (.func 129),#[.tmp 4],#[116]⟩,none⟩,⟨none,.store 168 (.tmp 2) (.tmp 5),none⟩]
instance : Live z2s := ⟨[1,2]⟩
def t_k127 : SC :=
 (.seq (.ops false z2t) (.seq (.ops false z2s) .ret))
theorem it_k127 : FnIs Tryz.prog 127 6 [.cell 2 168] t_k127 := ⟨Tryz.f127, _, Tryz.func127, rfl, rfl, rfl, rfl, by kernel_rfl⟩

def q0i (t : List (List Int)) : List AVal := t.map fun l => .sl 1 (q05 l)
theorem q2n (t : List (List Int)) : q0j (q0i t) = true := by
 refine qct fun x hx => ?_
 obtain ⟨l, _, rfl⟩ := List.mem_map.1 hx
 exact q03 l
theorem q4g (t : List (List Int)) : (q0i t).all AVal.one = true := by
 rw [List.all_eq_true]
 intro x hx
 obtain ⟨l, _, rfl⟩ := List.mem_map.1 hx
 rfl
theorem qeg (M : Mem) (t : List (List Int)) : (q0i t).map (fzc q5w M) = q0i t := by
 simp [q0i, fzc]
theorem z9k (p : Pst) (t : List (List Int)) (ht : t.length = 16) (hM : Ev (En Tryz.prog rfl).P 129 [.sl 2 (q1r [p])] (.ret (.agg (q0i t)))) : Ev (En Tryz.prog rfl).P 127 [q0h p] (.ret (.agg (q0i t))) := by
 refine Ev.of_body it_k127 (by simp) (Run.start ?_)
 have hpx : q0h p = .agg [.sl 1 (q05 p.vec), .sl 3 (q0c p.cloud)] := rfl
 have e0 : (q0i t).length = 16 := by simp [q0i, ht]
 have e1 := q4g t
 unfold t_k127
 rw [hpx]
 (have hF := True.intro; refine q1l (k:=?_); clear hF)
 refine q2w (l := [.sl 2 (q1r [p])]) rfl rfl (by simp [q0j, AVal.stb, q0b]) hM ?_
 (have hF := (aI @e0 @e1); refine q1l (k:=?_); clear hF)
 refine Fin.all (xs := [.agg (q0i t)]) ?_ (by simp [q0j, AVal.stb, q2n]) rfl
 have htk : (q0i t).take 16 = q0i t := List.take_of_length_le (by omega)
 simp [q5a, q8x, qby, z88, TD.isAgg, upd, tms, mms, e0, htk, qeg]

def z2i : List SOp := [⟨some 2,.alloc 168,none⟩]
instance : Live z2i := ⟨[0]⟩
def z2h : List SOp := [⟨some 3,.alloc 166,none⟩,⟨some 4,.alloc 166,none⟩]
instance : Live z2h := ⟨[0,2]⟩
def z2g : List SOp := [⟨some 5,.assign (.const (.int .i64 0)),none⟩]
instance : Live z2g := ⟨[0,2,3,4]⟩
def z2f : List SOp := [⟨some 11,.move (.tmp 5),none⟩,⟨some 12,.move (.tmp 0),none⟩,⟨some 13,.call ⟨.builtin .len,#[.tmp 12],#[116]⟩,none⟩,⟨some 14,.binOp .lss 3 (.tmp 11) (.tmp 13) 3,none⟩]
instance : Live z2f := ⟨[0,2,3,4,5]⟩
def z2e : List SOp := [⟨some 6,.assign (.const (.int .i64 0)),none⟩]
instance : Live z2e := ⟨[0,2,3,4,5]⟩
def z2d : List SOp := [⟨some 17,.move (.tmp 6),none⟩,⟨some 18,.move (.tmp 0),none⟩,⟨some 19,.move (.tmp 5),none⟩,⟨some 20,.indexAddr 116 (.tmp 18) (.tmp 19),none⟩,⟨some 21,.fieldAddr 26 (.tmp 20) 0,none⟩,⟨some 22,.load 23 (.tmp 21),none⟩,⟨some 23,.call ⟨.builtin .len,#[.tmp 22],#[23]⟩,none⟩,⟨some 24,.binOp .lss 3 (.tmp 17) (.tmp 23) 3,none⟩,⟨some 25,.move (.tmp 24),none⟩,⟨some 26,.move (.tmp 6),some ((some 25),true)⟩,⟨some 27,.binOp .lss 3 (.tmp 26) (.const (.int .i64 16)) 3,some ((some 25),true)⟩,⟨some 28,.pick (.tmp 25) (.tmp 27) (.const (.bool false)),none⟩]
instance : Live z2d := ⟨[0,2,3,4,5,6]⟩
def z2c : List SOp := [⟨some 31,.move (.tmp 6),none⟩,⟨some 32,.move (.tmp 6),none⟩,⟨some 33,.indexAddr 166 (.tmp 3) (.tmp 32),none⟩,⟨some 34,.load 23 (.tmp 33),none⟩,⟨some 35,.buildSlice 23 1 #[(0,.const (.int .i64 1))],none⟩,⟨some 36,.call ⟨.builtin .append,#[.tmp 34,.tmp 35],#[23,23]⟩,none⟩,⟨some 37,.indexAddr 166 (.tmp 3) (.tmp 31),none⟩,⟨none,.store 23 (.tmp 37) (.tmp 36),none⟩]
instance : Live z2c := ⟨[0,2,3,4,5,6]⟩
def qh6 : List SOp := [⟨some 38,.move (.tmp 6),none⟩,⟨some 39,.move (.tmp 6),none⟩,⟨some 40,.indexAddr 166 (.tmp 4) (.tmp 39),none⟩,⟨some 41,.load 23 (.tmp 40),none⟩,⟨some 42,.move (.tmp 0),none⟩,⟨some 43,.move (.tmp 5),none⟩,⟨some 44,.indexAddr 116 (.tmp 42) (.tmp 43),none⟩,⟨some 45,.fieldAddr 26 (.tmp 44) 0,none⟩,⟨some 46,.load 23 (.tmp 45),none⟩,⟨some 47,.move (.tmp 6),none⟩,⟨some 48,.indexAddr 23 (.tmp 46) (.tmp 47),none⟩,⟨some 49,.load 3 (.tmp 48),none⟩,⟨some 50,.buildSlice 23 1 #[(0,.tmp 49)],none⟩,⟨some 51,.call ⟨.builtin .append,#[.tmp 41,.tmp 50],#[23,23]⟩,none⟩,⟨some 52,.indexAddr 166 (.tmp 4) (.tmp 38),none⟩,⟨none,.store 23 (.tmp 52) (.tmp 51),none⟩]
instance : Live qh6 := ⟨[0,2,3,4,5,6]⟩
instance : Rd qh6 := ⟨fun j => j == 0⟩
def z2b : List SOp := [⟨some 29,.move (.tmp 6),none⟩,⟨some 30,.binOp .add 3 (.tmp 29) (.const (.int .i64 1)) 3,none⟩,⟨some 6,.assign (.tmp 30),none⟩]
instance : Live z2b := ⟨[0,2,3,4,5,6]⟩
def qn4 : List SOp := [⟨some 7,.assign (.const (.int .i64 0)),none⟩]
instance : Live qn4 := ⟨[0,2,3,4,5]⟩
def qn3 : List SOp := [⟨some 53,.move (.tmp 7),none⟩,⟨some 54,.move (.tmp 0),none⟩,⟨some 55,.move (.tmp 5),none⟩,⟨some 56,.indexAddr 116 (.tmp 54) (.tmp 55),none⟩,⟨some 57,.fieldAddr 26 (.tmp 56) 1,none⟩,⟨some 58,.load 24 (.tmp 57),none⟩,⟨some 59,.call ⟨.builtin .len,#[.tmp 58],#[24]⟩,none⟩,⟨some 60,.binOp .lss 3 (.tmp 53) (.tmp 59) 3,none⟩]
instance : Live qn3 := ⟨[0,2,3,4,5,7]⟩
def qn2 : List SOp := [⟨some 63,.move (.tmp 0),none⟩,⟨some 64,.move (.tmp 5),none⟩,⟨some 65,.indexAddr 116 (.tmp 63) (.tmp 64),none⟩,⟨some 66,.fieldAddr 26 (.tmp 65) 1,none⟩,⟨some 67,.load 24 (.tmp 66),none⟩,⟨some 68,.move (.tmp 7),none⟩,⟨some 69,.indexAddr 24 (.tmp 67) (.tmp 68),none⟩,⟨some 70,.load 127 (.tmp 69),none⟩,⟨some 8,.alloc 127,none⟩,⟨none,.store 127 (.tmp 8) (.tmp 70),none⟩]
instance : Live qn2 := ⟨[0,2,3,4,5,7]⟩
def qn1 : List SOp := [⟨some 71,.fieldAddr 127 (.tmp 8) 0,none⟩,⟨some 72,.load 3 (.tmp 71),none⟩,⟨some 73,.binOp .geq 3 (.tmp 72) (.const (.int .i64 0)) 3,none⟩,⟨some 74,.move (.tmp 73),none⟩,⟨some 75,.fieldAddr 127 (.tmp 8) 0,some ((some 74),true)⟩,⟨some 76,.load 3 (.tmp 75),some ((some 74),true)⟩,⟨some 77,.binOp .lss 3 (.tmp 76) (.const (.int .i64 16)) 3,some ((some 74),true)⟩,⟨some 78,.pick (.tmp 74) (.tmp 77) (.const (.bool false)),none⟩]
instance : Live qn1 := ⟨[0,2,3,4,5,7,8]⟩
def qdd : List SOp := [⟨some 79,.fieldAddr 127 (.tmp 8) 0,none⟩,⟨some 80,.load 3 (.tmp 79),none⟩,⟨some 81,.fieldAddr 127 (.tmp 8) 0,none⟩,⟨some 82,.load 3 (.tmp 81),none⟩,⟨some 83,.indexAddr 166 (.tmp 3) (.tmp 82),none⟩,⟨some 84,.load 23 (.tmp 83),none⟩,⟨some 85,.fieldAddr 127 (.tmp 8) 1,none⟩,⟨some 86,.load 3 (.tmp 85),none⟩,⟨some 87,.buildSlice 23 1 #[(0,.tmp 86)],none⟩,⟨some 88,.call ⟨.builtin .append,#[.tmp 84,.tmp 87],#[23,23]⟩,none⟩,⟨some 89,.indexAddr 166 (.tmp 3) (.tmp 80),none⟩,⟨none,.store 23 (.tmp 89) (.tmp 88),none⟩]
instance : Live qdd := ⟨[0,2,3,4,5,7,8]⟩
instance : Rd qdd := ⟨fun j => j == 8⟩
def qdc : List SOp := [⟨some 90,.fieldAddr 127 (.tmp 8) 0,none⟩,⟨some 91,.load 3 (.tmp 90),none⟩,⟨some 92,.fieldAddr 127 (.tmp 8) 0,none⟩,⟨some 93,.load 3 (.tmp 92),none⟩,⟨some 94,.indexAddr 166 (.tmp 4) (.tmp 93),none⟩,⟨some 95,.load 23 (.tmp 94),none⟩,⟨some 96,.fieldAddr 127 (.tmp 8) 2,none⟩,⟨some 97,.load 3 (.tmp 96),none⟩,⟨some 98,.buildSlice 23 1 #[(0,.tmp 97)],none⟩,⟨some 99,.call ⟨.builtin .append,#[.tmp 95,.tmp 98],#[23,23]⟩,none⟩,⟨some 100,.indexAddr 166 (.tmp 4) (.tmp 91),none⟩,⟨none,.store 23 (.tmp 100) (.tmp 99),none⟩]
instance : Live qdc := ⟨[0,2,3,4,5,7,8]⟩
instance : Rd qdc := ⟨fun j => j == 8⟩
def qn0 : List SOp := [⟨some 61,.move (.tmp 7),none⟩,⟨some 62,.binOp .add 3 (.tmp 61) (.const (.int .i64 1)) 3,none⟩,⟨some 7,.assign (.tmp 62),none⟩]
instance : Live qn0 := ⟨[0,2,3,4,5,7]⟩
def qmz : List SOp := [⟨some 15,.move (.tmp 5),none⟩,⟨some 16,.binOp .add 3 (.tmp 15) (.const (.int .i64 1)) 3,none⟩,⟨some 5,.assign (.tmp 16),none⟩]
instance : Live qmz := ⟨[0,2,3,4,5]⟩
def qmy : List SOp := [⟨some 9,.alloc 168,none⟩]
instance : Live qmy := ⟨[2,3,4]⟩
def qmx : List SOp := [⟨some 10,.assign (.const (.int .i64 0)),none⟩]
instance : Live qmx := ⟨[2,3,4,9]⟩
def qmw : List SOp := [⟨some 101,.move (.tmp 10),none⟩,⟨some 102,.binOp .lss 3 (.tmp 101) (.const (.int .i64 16)) 3,none⟩]
instance : Live qmw := ⟨[2,3,4,9,10]⟩
def qmv : List SOp := [⟨some 105,.move (.tmp 10),none⟩,⟨some 106,.move (.tmp 10),none⟩,⟨some 107,.indexAddr 166 (.tmp 3) (.tmp 106),none⟩,⟨some 108,.load 23 (.tmp 107),none⟩,⟨some 109,.move (.tmp 10),none⟩,⟨some 110,.indexAddr 166 (.tmp 4) (.tmp 109),none⟩,⟨some 111,.load 23 (.tmp 110),none⟩,⟨some 112,.call ⟨.value (.func 153),#[.tmp 108,.tmp 111],#[23,23]⟩,none⟩,⟨some 113,.fieldAddr 168 (.tmp 9) 0,none⟩,⟨some 114,.indexAddr 166 (.tmp 113) (.tmp 105),none⟩,⟨none,.store 23 (.tmp 114) (.tmp 112),none⟩]
instance : Live qmv := ⟨[2,3,4,9,10]⟩
def qmu : List SOp := [⟨some 103,.move (.tmp 10),none⟩,⟨some 104,.binOp .add 3 (.tmp 103) (.const (.int .i64 1)) 3,none⟩,⟨some 10,.assign (.tmp 104),none⟩]
instance : Live qmu := ⟨[2,3,4,9,10]⟩
def qmt : List SOp := [⟨some 115,.load 168 (.tmp 9),none⟩,⟨none,.store 168 (.tmp 2) (.tmp 115),none⟩]
instance : Live qmt := ⟨[2,9]⟩
def qjk : SC :=
 (.seq (.seq (.ops false z2d) (.cond (.tmp 28) .skip (.exit 2))) (.seq (.block 3 (.seq (.ops false z2c) (.opsW [41] qh6))) (.ops false z2b)))
def qjj : SC :=
 (.seq (.seq (.ops false qn3) (.cond (.tmp 60) .skip (.exit 4))) (.seq (.block 5 (.seq (.ops false qn2) (.seq (.ops false qn1) (.cond (.tmp 78) (.seq (.opsW [84] qdd) (.opsW [95] qdc)) .skip)))) (.ops false qn0)))
def qjl : SC :=
 (.seq (.seq (.ops false z2f) (.cond (.tmp 14) .skip (.exit 0))) (.seq (.block 1 (.seq (.seq (.ops false z2e) (.block 2 (.loop qjk))) (.seq (.ops false qn4) (.block 4 (.loop qjj))))) (.ops false qmz)))
def qji : SC :=
 (.seq (.seq (.ops false qmw) (.cond (.tmp 102) .skip (.exit 6))) (.seq (.block 7 (.ops true qmv)) (.ops false qmu)))
def t_k129 : SC :=
 (.seq (.ops false z2i) (.seq (.ops false z2h) (.seq (.seq (.ops false z2g) (.block 0 (.loop qjl))) (.seq (.ops false qmy) (.seq (.seq (.ops false qmx) (.block 6 (.loop qji))) (.seq (.ops false qmt) .ret))))))
theorem it_k129 : FnIs Tryz.prog 129 116 [.cell 2 168] t_k129 := ⟨Tryz.f129, _, Tryz.func129, rfl, rfl, rfl, rfl, by kernel_rfl⟩

def q83 (t : Tab) : List AVal := t.map fun l => .own 1 (q05 (los l))
def q84 (t : Tab) : List AVal := t.map fun l => .own 1 (q05 (his l))
theorem qph (t : Tab) : (q83 t).length = t.length := by simp [q83]
theorem qpk (t : Tab) : (q84 t).length = t.length := by simp [q84]
theorem qpi {t : Tab} {r : Nat} (h : r < t.length) : (q83 t)[r]? = some (.own 1 (q05 (los (t.getD r [])))) := by simp [q83, h]
theorem qpl {t : Tab} {r : Nat} (h : r < t.length) : (q84 t)[r]? = some (.own 1 (q05 (his (t.getD r [])))) := by simp [q84, h]
theorem qg4 {t : Tab} {r : Nat} (h : r < t.length) : ((q83 t).set r .hole)[r]? = some .hole := by simp [q83, h]
theorem qg5 {t : Tab} {r : Nat} (h : r < t.length) : ((q84 t).set r .hole)[r]? = some .hole := by simp [q84, h]
theorem qpj {t : Tab} {r : Nat} (h : r < t.length) (x : Rn) : ((q83 t).set r .hole).set r (.own 1 (q05 (los (t.getD r []) ++ [x.1]))) = q83 (q6y t r x) := by
 rw [List.set_set]
 simp [q83, q6y, los, List.map_set]
theorem qpm {t : Tab} {r : Nat} (h : r < t.length) (x : Rn) : ((q84 t).set r .hole).set r (.own 1 (q05 (his (t.getD r []) ++ [x.2]))) = q84 (q6y t r x) := by
 rw [List.set_set]
 simp [q84, q6y, his, List.map_set]
theorem own_no (K : Nat → Bool) (t : Tab) (f : List Rn → List Int) : (ABlk.cells (t.map fun l => .own 1 (q05 (f l)))).no K = true := by
 simp only [ABlk.no, List.all_eq_true]
 intro x hx
 obtain ⟨l, _, rfl⟩ := List.mem_map.1 hx
 simp only [AVal.noC, List.all_eq_true]
 intro y hy
 exact q1f (q4p (q03 _) y hy)
theorem qi6 (K : Nat → Bool) (t : Tab) : (ABlk.cells (q83 t)).no K = true := own_no K t los
theorem qi8 (K : Nat → Bool) (t : Tab) : (ABlk.cells (q84 t)).no K = true := own_no K t his
theorem zk6 (l : List Rn) : (q05 (los l)).length = l.length := by simp [q05, los]
theorem zkn (l : List Rn) : (q05 (his l)).length = l.length := by simp [q05, his]
def q6s (f : List Rn → List Int) (t : Tab) : List AVal := t.map fun l => .sl 1 (q05 (f l))
theorem qg1 (f : List Rn → List Int) (t : Tab) : q0j (q6s f t) = true := q4j fun l => q03 _
theorem qg2 (f : List Rn → List Int) {t : Tab} {r : Nat} (h : r < t.length) : (q6s f t)[r]? = some (.sl 1 (q05 (f (t.getD r [])))) := by simp [q6s, h]
theorem zlq (t : Tab) : (q83 t).map frz = q6s los t := by simp [q83, q6s, frz]
theorem zlv (t : Tab) : (q84 t).map frz = q6s his t := by simp [q84, q6s, frz]
def q29 (u : Tab) (r : Nat) : List AVal := ((u.take r).map fun l => .sl 1 (q05 (q0q l))) ++ List.replicate (16 - r) .nil
theorem q74 (u : Tab) (r : Nat) : q0j (q29 u r) = true := by
 unfold q29
 rw [qqm, q4j (f := fun l => AVal.sl 1 (q05 (q0q l))) fun l => q03 _]
 simp only [Bool.true_and]
 exact qct fun x hx => by rw [(List.mem_replicate.1 hx).2]; rfl
theorem qcy (u : Tab) (h : u.length = 16) {r : Nat} (hr : r ≤ 16) : (q29 u r).length = 16 := by
 simp [q29]
 omega
theorem qcx (u : Tab) (h : u.length = 16) {r : Nat} (hr : r < 16) : (q29 u r).set r (.sl 1 (q05 (q0q (u.getD r [])))) = q29 u (r + 1) := by
 have hru : r < u.length := by omega
 have hl : ((u.take r).map fun l => AVal.sl 1 (q05 (q0q l))).length = r := by simp; omega
 unfold q29
 rw [List.set_append_right _ _ (by omega), hl, Nat.sub_self, show 16 - r = (16 - (r + 1)) + 1 by omega, List.replicate_succ, List.set_cons_zero]
 have e : u.take (r + 1) = u.take r ++ [u.getD r []] := by rw [List.take_add_one]; simp [hru]
 rw [e, List.map_append, List.append_assoc]
 rfl
theorem qcz (u : Tab) (h : u.length = 16) : q29 u 16 = q0i (u.map q0q) := by
 unfold q29
 rw [List.take_of_length_le (by omega)]
 simp [q0i]
def q7t (ps : List Pst) : List (List Int) := (q0k ps).map q0q
theorem zjj (v : List Int) (u : Tab) (i : Nat) : q6y u i (1, q1o v i) = q3s v u i := rfl
theorem ev_k129 (ps : List Pst) (hl : ps.length ≤ 1000000000) (hw : (ps.map wt).sum ≤ 800000000) : Ev (En Tryz.prog rfl).P 129 [.sl 2 (q1r ps)] (.ret (.agg (q0i (q7t ps)))) := by
 refine Ev.of_body it_k129 (by simp) (Run.start ?_)
 unfold t_k129
 have e0 : (q1r ps).length = ps.length := qaf _
 (have hF := @e0; refine q01 (k:=?_); clear hF)
 have own0 : ∀ (f : List Rn → List Int), f [] = [] → ∀ (i : Nat) (x y : AVal), (List.replicate 16 AVal.nil)[i]? = some x → (q70.map fun l => AVal.own 1 (q05 (f l)))[i]? = some y → y = x ∨ (x = .nil ∧ ∃ sz, y = .own sz []) := by
  intro f hf i x y hx hy
  rw [List.getElem?_replicate] at hx
  split at hx
  ·rename_i h16
   cases hx
   refine .inr ⟨rfl, 1, ?_⟩
   simp only [q70, List.map_replicate, List.getElem?_replicate, h16, if_true, hf] at hy
   exact (Option.some.inj hy).symm
  ·cases hx
 refine Run.wk (Wk.trans (Wk.own_cells (k := 3) (cs' := q83 q70) rfl rfl (own0 los rfl)) (Wk.own_cells (k := 4) (cs' := q84 q70) rfl rfl (own0 his rfl))) ?_
 refine Run.while (σ := Nat) (fun i => ⟨tms [(0, .sl 2 (q1r ps)), (2, .ptr 2 0), (3, .ptr 3 0), (4, .ptr 4 0), (5, .int .i64 i)], mms [(2, .cells (List.replicate 16 .nil)), (3, .cells (q83 ((ps.take i).foldl q1m q70))), (4, .cells (q84 ((ps.take i).foldl q1m q70)))]⟩)
  (fun i => i ≤ ps.length) (fun i => ps.length - i) 0 (have hW := True.intro; q0f) (Nat.zero_le _) ?_
 intro i hi
 unfold qjl
 by_cases hlt : i < ps.length
 ·obtain ⟨p, hp⟩ : ∃ p, ps[i]? = some p := ⟨ps[i], by simp [hlt]⟩
  have hq0 := TabLe.all qas (ps.take i)
  have hnext := q34 q1m q70 ps hp
  have hsum : ((ps.take i).map wt).sum + wt p ≤ (ps.map wt).sum := by
   have : ((ps.take (i + 1)).map wt).sum ≤ (ps.map wt).sum := by rw [List.map_take]; exact q95 _
   rw [List.take_add_one, hp] at this
   simpa using this
  generalize (ps.take i).foldl q1m q70 = u0 at hq0 hnext ⊢
  generalize ((ps.take i).map wt).sum = m at hq0 hsum
  have hwt : wt p = p.vec.length + p.cloud.length := rfl
  have e1 : (q1r ps)[i]? = some (.agg [.sl 1 (q05 p.vec), .sl 3 (q0c p.cloud)]) := qeh hp
  have e2 : (q05 p.vec).length = p.vec.length := q0g _
  have e3 : (q0c p.cloud).length = p.cloud.length := q1h _
  (have hF := (aI (aI @e0 @e1) (aI @e2 @e3)); refine q01 (k:=?_); clear hF)
  refine Run.while (σ := Nat) (fun j => ⟨tms [(0, .sl 2 (q1r ps)), (2, .ptr 2 0), (3, .ptr 3 0), (4, .ptr 4 0), (5, .int .i64 i), (6, .int .i64 j)], mms [(2, .cells (List.replicate 16 .nil)), (3, .cells (q83 ((List.range j).foldl (q3s p.vec) u0))), (4, .cells (q84 ((List.range j).foldl (q3s p.vec) u0)))]⟩)
   (fun j => j ≤ min p.vec.length 16) (fun j => 16 - j) 0 (have hW := True.intro; q0f) (Nat.zero_le _) ?_
  intro j hj
  unfold qjk
  by_cases hjl : j < min p.vec.length 16
  ·have hnx := q8d (v := p.vec) (t := u0) j
   obtain ⟨q1, q2⟩ := TabLe.range (v := p.vec) hq0 j
   generalize (List.range j).foldl (q3s p.vec) u0 = u at q1 q2 hnx ⊢
   have hju : j < u.length := by omega
   have g1 := qph u
   have g2 := qpk u
   have g3 := qpi hju
   have g4 := qpl hju
   have g5 := qg4 hju
   have g6 := qg5 hju
   have g7 := qpj hju (1, q1o p.vec j)
   have g8 := qpm hju (1, q1o p.vec j)
   dsimp only at g7 g8
   rw [zjj, ← hnx] at g7 g8
   have hq := q2 j
   have g9 := zk6 (u.getD j [])
   have g10 := zkn (u.getD j [])
   have g11 : (q05 p.vec)[j]? = some (.int .i64 (q1o p.vec j)) := q0y (by simp [q1o, show j < p.vec.length by omega])
   (have hF := (aI (aI (aI (aI @e0 @e1) (aI @e2 @e3)) (aI (aI @q1 @g1) (aI @g2 (aI @g3 @g4)))) (aI (aI (aI @g5 @g6) (aI @g7 @g8)) (aI (aI @g9 @g10) (aI @g11 (aI @q3w @List.length_set.{0}))))); refine q01 (k:=?_); clear hF)
   ((with_reducible apply toW); refine stW (fun j => false) (k:=?_))
   (have hF := (aI (aI (aI (aI @e0 @e1) (aI @e2 @e3)) (aI (aI @q1 @g1) (aI @g2 (aI @g3 @g4)))) (aI (aI (aI @g5 @g6) (aI @g7 @g8)) (aI (aI @g9 @g10) (aI @g11 (aI @q3w @List.length_set.{0}))))); refine q01 (k:=?_); clear hF)
   (refine Fin.nextW (j + 1) ?_ (have hW := True.intro; q0f); (try dsimp only))
   omega
  ·have hjm : j = min p.vec.length 16 := by omega
   have hav : (List.range j).foldl (q3s p.vec) u0 = q5s p.vec u0 := by rw [hjm]; rfl
   rw [hav]
   have hqv : TabLe (q5s p.vec u0) (0 + m + min p.vec.length 16) := TabLe.range hq0 _
   have hnext' : (ps.take (i + 1)).foldl q1m q70 = q4o p.cloud (q5s p.vec u0) := hnext
   generalize q5s p.vec u0 = u1 at hqv hnext' ⊢
   clear hav
   have hguard : ¬ (j < p.vec.length ∧ j < 16) := by omega
   rcases Nat.lt_or_ge j p.vec.length with hjv | hjv
   all_goals
    clear hguard
    (have hF := (aI (aI @e0 @e1) (aI @e2 @e3)); refine q01 (k:=?_); clear hF)
    refine Run.while (σ := Nat) (fun c => ⟨tms [(0, .sl 2 (q1r ps)), (2, .ptr 2 0), (3, .ptr 3 0), (4, .ptr 4 0), (5, .int .i64 i), (7, .int .i64 c)], mms [(2, .cells (List.replicate 16 .nil)), (3, .cells (q83 ((p.cloud.take c).foldl putSn u1))), (4, .cells (q84 ((p.cloud.take c).foldl putSn u1)))]⟩)
     (fun c => c ≤ p.cloud.length) (fun c => p.cloud.length - c) 0 (have hW := True.intro; q0f) (Nat.zero_le _) ?_
    intro c hc
    unfold qjj
    by_cases hcl : c < p.cloud.length
    ·obtain ⟨s, hs⟩ : ∃ s, p.cloud[c]? = some s := ⟨p.cloud[c], by simp [hcl]⟩
     have hnx := q34 putSn u1 p.cloud hs
     obtain ⟨q1, q2⟩ := TabLe.cloud hqv (p.cloud.take c)
     have hcl2 : (p.cloud.take c).length ≤ p.cloud.length := by rw [List.length_take]; omega
     generalize (p.cloud.take c).foldl putSn u1 = u at q1 q2 hnx ⊢
     have g0 : (q0c p.cloud)[c]? = some (.agg [.int .i64 s.1, .int .i64 s.2.1, .int .i64 s.2.2]) := q2h hs
     have g1 := qph u
     have g2 := qpk u
     by_cases hin : 0 ≤ s.1 ∧ s.1 < 16
     ·rw [z6t hin] at hnx
      obtain ⟨r, hr⟩ : ∃ r : Nat, s.1 = r := ⟨s.1.toNat, by omega⟩
      rw [hr, Int.toNat_natCast] at hnx
      have hru : r < u.length := by omega
      have g3 := qpi hru
      have g4 := qpl hru
      have g5 := qg4 hru
      have g6 := qg5 hru
      have g7 := qpj hru s.2
      have g8 := qpm hru s.2
      rw [← hnx] at g7 g8
      have hq := q2 r
      have g9 := zk6 (u.getD r [])
      have g10 := zkn (u.getD r [])
      (have hF := (aI (aI (aI @e0 @e1) (aI @e2 @e3)) (aI (aI @hr @q1) (aI @g0 (aI @g1 @g2)))); refine q01 (k:=?_); clear hF)
      ((with_reducible apply toW); refine stW (fun j => j == 8) (k:=?_))
      (have hF := (aI (aI (aI (aI @e0 @e1) (aI @e2 @e3)) (aI (aI @hr @q1) (aI @g0 (aI @g1 @g2)))) (aI (aI (aI @g3 @g4) (aI @g5 (aI @g6 @g7))) (aI (aI @g8 @g9) (aI @g10 (aI @q3w @List.length_set.{0}))))); refine q01 (k:=?_); clear hF)
      ((with_reducible apply toW); refine stW (fun j => j == 8) (k:=?_))
      (have hF := (aI (aI (aI (aI @e0 @e1) (aI @e2 @e3)) (aI (aI @hr @q1) (aI @g0 (aI @g1 @g2)))) (aI (aI (aI @g3 @g4) (aI @g5 (aI @g6 @g7))) (aI (aI @g8 @g9) (aI @g10 (aI @q3w @List.length_set.{0}))))); refine q01 (k:=?_); clear hF)
      (refine Fin.nextW (c + 1) ?_ (have hW := True.intro; q0f); (try dsimp only))
      omega
     ·rw [qdg hin] at hnx
      by_cases hin1 : 0 ≤ s.1
      ·have hin2 : ¬ s.1 < 16 := fun h => hin ⟨hin1, h⟩
       (have hF := (aI (aI (aI @e0 @e1) (aI @e2 @e3)) (aI (aI @q1 @g0) (aI @g1 @g2))); refine q01 (k:=?_); clear hF)
       (refine Fin.nextW (c + 1) ?_ (have hW := @hnx; q0f); (try dsimp only))
       omega
      ·(have hF := (aI (aI (aI @e0 @e1) (aI @e2 @e3)) (aI (aI @q1 @g0) (aI @g1 @g2))); refine q01 (k:=?_); clear hF)
       (refine Fin.nextW (c + 1) ?_ (have hW := @hnx; q0f); (try dsimp only))
       omega
    ·have hce : c = p.cloud.length := by omega
     have hcf : (p.cloud.take c).foldl putSn u1 = (ps.take (i + 1)).foldl q1m q70 := by rw [hnext', hce, List.take_length]; rfl
     rw [hcf]
     (have hF := (aI (aI @e0 @e1) (aI @e2 @e3)); refine q01 (k:=?_); clear hF)
     (refine Fin.nextW (i + 1) ?_ (have hW := True.intro; q0f); (try dsimp only))
     omega
 ·have hie : i = ps.length := by omega
  have hop : (ps.take i).foldl q1m q70 = q0k ps := by rw [hie, List.take_length]; rfl
  rw [hop]
  obtain ⟨q1, q2⟩ := q1j ps
  unfold q7t
  generalize q0k ps = u at q1 q2 ⊢
  (have hF := @e0; refine q01 (k:=?_); clear hF)
  refine Run.wk (Wk.trans (Wk.freeze (k := 3) (cs := q83 u) rfl) (Wk.freeze (k := 4) (cs := q84 u) rfl)) ?_
  rw [zlq, zlv]
  refine Run.while (σ := Nat) (fun r => ⟨tms [(2, .ptr 2 0), (3, .ptr 3 0), (4, .ptr 4 0), (9, .ptr 9 0), (10, .int .i64 r)], mms [(2, .cells (List.replicate 16 .nil)), (3, .cells (q6s los u)), (4, .cells (q6s his u)), (9, .cells (q29 u r))]⟩)
   (fun r => r ≤ 16) (fun r => 16 - r) 0 (have hW := (aI @qg1 @q74); q0f) (Nat.zero_le _) ?_
  intro r hr
  have g0 := qcy u q1 hr
  unfold qji
  by_cases hlt : r < 16
  ·have hru : r < u.length := by omega
   have hq := q2 r
   have g1 : (q6s los u).length = u.length := by simp [q6s]
   have g2 : (q6s his u).length = u.length := by simp [q6s]
   have g3 := qg2 los hru
   have g4 := qg2 his hru
   have g5 := qcx u q1 hlt
   have g6 : (q29 u r).take r ++ AVal.sl 1 (q05 (q0q (u.getD r []))) :: (q29 u r).drop (r + 1) = q29 u (r + 1) := by rw [← g5, List.set_eq_take_append_cons_drop, if_pos (by omega)]
   (have hF := (aI (aI @q1 (aI @g0 @g1)) (aI (aI @g2 @g3) (aI @g4 @g5))); refine q01 (k:=?_); clear hF)
   refine q00 [.sl 1 (q05 (los (u.getD r []))), .sl 1 (q05 (his (u.getD r [])))] (he := ev_k153 _ (by omega)) (k:=?_)
   (have hF := (aI (aI (aI @q1 @g0) (aI @g1 (aI @g2 @g3))) (aI (aI @g4 @g5) (aI @g6 (aI @List.cons_append.{0} @List.nil_append.{0})))); refine q01 (k:=?_); clear hF)
   have g7 : List.take r (q29 u r) ++ AVal.sl 1 (q05 (q0q (u[r]?.getD []))) :: List.drop (r + 1) (q29 u r) = q29 u (r + 1) := by simpa using g6
   (refine Fin.nextW (r + 1) ?_ (have hW := (aI @qg1 (aI @q74 @g7)); q0f); (try dsimp only))
   omega
  ·have hre : r = 16 := by omega
   subst hre
   have g1 := qcz u q1
   have g2 : (q0i (u.map q0q)).length = 16 := by simp [q0i, q1]
   have g3 := q4g (u.map q0q)
   rw [g1]
   have htk : (q0i (u.map q0q)).take 16 = q0i (u.map q0q) := List.take_of_length_le (by omega)
   have g4 : (q0i (u.map q0q)).all AVal.plain = true := by
    rw [List.all_eq_true]
    intro x hx
    obtain ⟨l, _, rfl⟩ := List.mem_map.1 hx
    rfl
   have g5 : (List.replicate 16 AVal.nil).drop 16 = [] := rfl
   (have hF := (aI (aI @g2 (aI @g3 @g4)) (aI @g5 (aI @htk @List.length_replicate.{0}))); refine q01 (k:=?_); clear hF)
   refine Fin.all (xs := [.agg (q0i (u.map q0q))]) ?_ (by simp [q0j, AVal.stb, q2n]) rfl
   simp [q5a, q8x, qby, TE_0, TE_3, TE_16, TE_23, TE_24, TE_26, zmu, zmt, zms, z88, zmr, zmq, TD.isAgg, upd, tms, g2, htk, qeg]


theorem q8j {t : List (List Int)} {r : Nat} (h : r < t.length) : (q0i t)[r]? = some (.sl 1 (q05 (t.getD r []))) := by simp [q0i, h]


def zgt : List SOp := [⟨some 2,.box 26 (.tmp 0),none⟩,⟨some 3,.box 41 (.tmp 1),none⟩,⟨some 4,.assign (.const (.bool false)),none⟩]
instance : Live zgt := ⟨[0,1]⟩
def zgs : List SOp := [⟨some 5,.load 41 (.tmp 3),none⟩,⟨some 6,.call ⟨.value (.func 98),#[.tmp 5],#[41]⟩,none⟩,⟨some 7,.unOp .not 4 (.tmp 6),none⟩]
instance : Live zgs := ⟨[2,3]⟩
def zgr : List SOp := [⟨some 4,.assign (.const (.bool false)),none⟩]
instance : Live zgr := ⟨[]⟩
def zgq : List SOp := [⟨some 8,.fieldAddr 41 (.tmp 3) 0,none⟩,⟨some 9,.load 3 (.tmp 8),none⟩,⟨some 10,.fieldAddr 26 (.tmp 2) 0,none⟩,⟨some 11,.load 23 (.tmp 10),none⟩,⟨some 12,.call ⟨.builtin .len,#[.tmp 11],#[23]⟩,none⟩,⟨some 13,.binOp .lss 3 (.tmp 9) (.tmp 12) 3,none⟩,⟨some 14,.move (.tmp 13),none⟩,⟨some 15,.fieldAddr 41 (.tmp 3) 1,some ((some 14),true)⟩,⟨some 16,.load 3 (.tmp 15),some ((some 14),true)⟩,⟨some 17,.fieldAddr 26 (.tmp 2) 0,some ((some 14),true)⟩,⟨some 18,.load 23 (.tmp 17),some ((some 14),true)⟩,⟨some 19,.fieldAddr 41 (.tmp 3) 0,some ((some 14),true)⟩,⟨some 20,.load 3 (.tmp 19),some ((some 14),true)⟩,⟨some 21,.indexAddr 23 (.tmp 18) (.tmp 20),some ((some 14),true)⟩,⟨some 22,.load 3 (.tmp 21),some ((some 14),true)⟩,⟨some 23,.binOp .leq 3 (.tmp 16) (.tmp 22) 3,some ((some 14),true)⟩,⟨some 24,.pick (.tmp 14) (.tmp 23) (.const (.bool false)),none⟩]
instance : Live zgq := ⟨[2,3]⟩
def zgp : List SOp := [⟨some 4,.assign (.const (.bool true)),none⟩]
instance : Live zgp := ⟨[]⟩
def zgo : List SOp := [⟨some 25,.fieldAddr 26 (.tmp 2) 1,none⟩,⟨some 26,.load 24 (.tmp 25),none⟩,⟨some 27,.makeFunc (.func 100) #[] #[.tmp 3],none⟩,⟨some 28,.call ⟨.value (.func 99),#[.tmp 26,.tmp 27],#[24,142]⟩,none⟩,⟨some 4,.assign (.tmp 28),none⟩]
instance : Live zgo := ⟨[2,3]⟩
def t_k51 : SC :=
 (.seq (.ops false zgt) (.seq (.seq (.ops false zgs) (.cond (.tmp 7) (.seq (.ops false zgr) .ret) .skip)) (.seq (.seq (.ops true zgq) (.cond (.tmp 24) (.seq (.ops false zgp) .ret) .skip)) (.seq (.ops false zgo) .ret))))
theorem it_k51 : FnIs Tryz.prog 51 29 [.tmp 4] t_k51 := ⟨Tryz.f51, _, Tryz.func51, rfl, rfl, rfl, rfl, by kernel_rfl⟩

def zbj : List SOp := [⟨some 1,.box 41 (.tmp 0),none⟩,⟨some 2,.assign (.const (.bool false)),none⟩]
instance : Live zbj := ⟨[0]⟩
def zbi : List SOp := [⟨some 3,.fieldAddr 41 (.tmp 1) 0,none⟩,⟨some 4,.load 3 (.tmp 3),none⟩,⟨some 5,.binOp .geq 3 (.tmp 4) (.const (.int .i64 0)) 3,none⟩,⟨some 6,.move (.tmp 5),none⟩,⟨some 7,.fieldAddr 41 (.tmp 1) 0,some ((some 6),true)⟩,⟨some 8,.load 3 (.tmp 7),some ((some 6),true)⟩,⟨some 9,.binOp .lss 3 (.tmp 8) (.const (.int .i64 16)) 3,some ((some 6),true)⟩,⟨some 10,.pick (.tmp 6) (.tmp 9) (.const (.bool false)),none⟩,⟨some 11,.move (.tmp 10),none⟩,⟨some 12,.fieldAddr 41 (.tmp 1) 1,some ((some 11),true)⟩,⟨some 13,.load 3 (.tmp 12),some ((some 11),true)⟩,⟨some 14,.binOp .geq 3 (.tmp 13) (.const (.int .i64 1)) 3,some ((some 11),true)⟩,⟨some 15,.pick (.tmp 11) (.tmp 14) (.const (.bool false)),none⟩,⟨some 16,.move (.tmp 15),none⟩,⟨some 17,.fieldAddr 41 (.tmp 1) 1,some ((some 16),true)⟩,⟨some 18,.load 3 (.tmp 17),some ((some 16),true)⟩,⟨some 19,.binOp .leq 3 (.tmp 18) (.const (.int .i64 1000000000)) 3,some ((some 16),true)⟩,⟨some 20,.pick (.tmp 16) (.tmp 19) (.const (.bool false)),none⟩,⟨some 2,.assign (.tmp 20),none⟩]
instance : Live zbi := ⟨[1]⟩
def t_k98 : SC :=
 (.seq (.ops false zbj) (.seq (.ops false zbi) .ret))
theorem it_k98 : FnIs Tryz.prog 98 21 [.tmp 2] t_k98 := ⟨Tryz.f98, _, Tryz.func98, rfl, rfl, rfl, rfl, by kernel_rfl⟩

def zbh : List SOp := [⟨some 4,.assign (.const (.bool false)),none⟩]
instance : Live zbh := ⟨[0,1]⟩
def zbg : List SOp := [⟨some 5,.move (.tmp 0),none⟩,⟨some 6,.move (.tmp 1),none⟩,⟨some 7,.call ⟨.value (.func 136),#[.tmp 5,.tmp 6],#[24,142]⟩,none⟩,⟨some 8,.binOp .geq 3 (.tmp 7) (.const (.int .i64 0)) 3,none⟩,⟨some 4,.assign (.tmp 8),none⟩]
instance : Live zbg := ⟨[0,1]⟩
def t_k99 : SC :=
 (.seq (.ops false zbh) (.seq (.ops false zbg) .ret))
theorem it_k99 : FnIs Tryz.prog 99 9 [.tmp 4] t_k99 := ⟨Tryz.f99, _, Tryz.func99, rfl, rfl, rfl, rfl, by kernel_rfl⟩

def z6s : List SOp := [⟨some 2,.box 127 (.tmp 0),none⟩,⟨some 3,.assign (.const (.bool false)),none⟩]
instance : Live z6s := ⟨[0,1]⟩
def z6r : List SOp := [⟨some 4,.fieldAddr 127 (.tmp 2) 0,none⟩,⟨some 5,.load 3 (.tmp 4),none⟩,⟨some 6,.fieldAddr 41 (.tmp 1) 0,none⟩,⟨some 7,.load 3 (.tmp 6),none⟩,⟨some 8,.binOp .eql 3 (.tmp 5) (.tmp 7) 3,none⟩,⟨some 9,.move (.tmp 8),none⟩,⟨some 10,.fieldAddr 127 (.tmp 2) 1,some ((some 9),true)⟩,⟨some 11,.load 3 (.tmp 10),some ((some 9),true)⟩,⟨some 12,.fieldAddr 41 (.tmp 1) 1,some ((some 9),true)⟩,⟨some 13,.load 3 (.tmp 12),some ((some 9),true)⟩,⟨some 14,.binOp .leq 3 (.tmp 11) (.tmp 13) 3,some ((some 9),true)⟩,⟨some 15,.pick (.tmp 9) (.tmp 14) (.const (.bool false)),none⟩,⟨some 16,.move (.tmp 15),none⟩,⟨some 17,.fieldAddr 41 (.tmp 1) 1,some ((some 16),true)⟩,⟨some 18,.load 3 (.tmp 17),some ((some 16),true)⟩,⟨some 19,.fieldAddr 127 (.tmp 2) 2,some ((some 16),true)⟩,⟨some 20,.load 3 (.tmp 19),some ((some 16),true)⟩,⟨some 21,.binOp .leq 3 (.tmp 18) (.tmp 20) 3,some ((some 16),true)⟩,⟨some 22,.pick (.tmp 16) (.tmp 21) (.const (.bool false)),none⟩,⟨some 3,.assign (.tmp 22),none⟩]
instance : Live z6r := ⟨[1,2]⟩
def t_k100 : SC :=
 (.seq (.ops false z6s) (.seq (.ops false z6r) .ret))
theorem it_k100 : FnIs Tryz.prog 100 23 [.tmp 3] t_k100 := ⟨Tryz.f100, _, Tryz.func100, rfl, rfl, rfl, rfl, by kernel_rfl⟩

def z1r : List SOp := [⟨some 4,.assign (.const (.int .i64 0)),none⟩]
instance : Live z1r := ⟨[0,1]⟩
def z1q : List SOp := [⟨some 6,.move (.tmp 0),none⟩,⟨some 7,.call ⟨.builtin .len,#[.tmp 6],#[24]⟩,none⟩,⟨some 8,.move (.const (.int .i64 0)),none⟩]
instance : Live z1q := ⟨[0,1]⟩
def z1p : List SOp := [⟨some 9,.binOp .lss 3 (.tmp 8) (.tmp 7) 3,none⟩]
instance : Live z1p := ⟨[0,1,7,8]⟩
def z1o : List SOp := [⟨some 10,.move (.tmp 8),none⟩,⟨some 5,.assign (.tmp 10),none⟩]
instance : Live z1o := ⟨[0,1,7,8]⟩
def z1n : List SOp := [⟨some 11,.move (.tmp 1),none⟩,⟨some 12,.move (.tmp 0),none⟩,⟨some 13,.move (.tmp 5),none⟩,⟨some 14,.indexAddr 24 (.tmp 12) (.tmp 13),none⟩,⟨some 15,.load 127 (.tmp 14),none⟩,⟨some 16,.call ⟨.value (.tmp 11),#[.tmp 15],#[127]⟩,none⟩]
instance : Live z1n := ⟨[0,1,5,7,8]⟩
def z1m : List SOp := [⟨some 17,.move (.tmp 5),none⟩,⟨some 4,.assign (.tmp 17),none⟩]
instance : Live z1m := ⟨[5]⟩
def z1l : List SOp := [⟨some 18,.binOp .add 3 (.tmp 8) (.const (.int .i64 1)) 3,none⟩,⟨some 8,.move (.tmp 18),none⟩]
instance : Live z1l := ⟨[0,1,7,8]⟩
def z1k : List SOp := [⟨some 4,.assign (.const (.int .i64 (-1))),none⟩]
instance : Live z1k := ⟨[]⟩
def qcr : SC :=
 (.seq (.ops false z1p) (.seq (.cond (.tmp 9) .skip (.exit 0)) (.seq (.block 1 (.seq (.ops false z1o) (.seq (.ops false z1n) (.cond (.tmp 16) (.seq (.ops false z1m) .ret) .skip)))) (.ops false z1l))))
def t_k136 : SC :=
 (.seq (.ops false z1r) (.seq (.seq (.ops false z1q) (.block 0 (.loop qcr))) (.seq (.ops false z1k) .ret)))
theorem it_k136 : FnIs Tryz.prog 136 19 [.tmp 4] t_k136 := ⟨Tryz.f136, _, Tryz.func136, rfl, rfl, rfl, rfl, by kernel_rfl⟩

def LoopP (n : Nat) (s2 : AS) (I : Prop) (Q : Ex → AS → Prop) : Ex → AS → Prop := Ex.then (fun s' => Wk n s' s2 ∧ I) Q
theorem Fin.nextP {E : Env} {n : Nat} {s s2 : AS} {I : Prop} {Q' : Ex → AS → Prop} (h : Wk n s s2) (hi : I) : Fin E n (LoopP n s2 I Q') .done .normal s := ⟨h, hi⟩
theorem Fin.outP_ret {E : Env} {n : Nat} {s s2 : AS} {I : Prop} {Q : Ex → AS → Prop} {k : Kont} (h : Fin E n Q k .ret s) : Fin E n (LoopP n s2 I (KQ E n Q k)) .done .ret s := h
theorem Run.rangeP {E : Env} {n : Nat} {Q : Ex → AS → Prop} {k : Kont} {s : AS} {x : SC} (len : Nat) (S : Nat → AS) (I : Nat → Prop) (h0 : Wk n s (S 0)) (hI : I 0) (round : ∀ i, i < len → I i → Run E n (LoopP n (S (i + 1)) (I (i + 1)) (KQ E n Q k)) x .done (S i))
 (last : I len → Run E n (Ex.then (fun _ => False) (KQ E n Q k)) x .done (S len)) : Run E n Q (.loop x) k s := by
 refine Run.wk h0 (Run.loop (fun m s => ∃ i, i ≤ len ∧ m = len - i ∧ s = S i ∧ I i) (m0 := len) ⟨0, Nat.zero_le _, rfl, rfl, hI⟩ fun m s ⟨i, hi, hm, hs, hIi⟩ => ?_)
 subst hs
 by_cases hl : i < len
 ·refine AW.mono (round i hl hIi) fun e s' h => ?_
  cases e with
  | normal => exact ⟨len - (i + 1), S (i + 1), by omega, h.1, i + 1, hl, rfl, rfl, h.2⟩
  | _ => exact h
 ·have : i = len := by omega
  subst this
  refine AW.mono (last hIi) fun e s' h => ?_
  cases e with
  | normal => exact h.elim
  | _ => exact h
def q3u (r m : Int) : Bool := decide (0 ≤ r) && (decide (r < 16) && (decide (1 ≤ m) && decide (m ≤ 1000000000)))
theorem ev_k98 (d : Rn) : Ev (En Tryz.prog rfl).P 98 [q37 d] (.ret (.bool (q3u d.1 d.2))) := by
 refine Ev.of_body it_k98 (by simp) (Run.start ?_)
 unfold t_k98 q37 q3u
 cases c1 : decide (0 ≤ d.1)
 ·(have hF := @c1; refine q1l (k:=?_); clear hF)
  exact Fin.tmp' rfl rfl
 ·cases c2 : decide (d.1 < 16)
  ·(have hF := (aI @c1 @c2); refine q1l (k:=?_); clear hF)
   exact Fin.tmp' rfl rfl
  ·cases c3 : decide (1 ≤ d.2)
   ·(have hF := (aI @c1 (aI @c2 @c3)); refine q1l (k:=?_); clear hF)
    exact Fin.tmp' rfl rfl
   ·(have hF := (aI @c1 (aI @c2 @c3)); refine q1l (k:=?_); clear hF)
    exact Fin.tmp' rfl rfl
def zaf (d : Rn) (s : Sn) : Bool := decide (s.1 = d.1) && (decide (s.2.1 ≤ d.2) && decide (d.2 ≤ s.2.2))
theorem ev_k100 (d : Rn) (s : Sn) : Ev (En Tryz.prog rfl).P 100 [qro s, .sptr [.int .i64 d.1, .int .i64 d.2]] (.ret (.bool (zaf d s))) := by
 refine Ev.of_body it_k100 (by simp) (Run.start ?_)
 unfold t_k100 qro zaf
 cases c1 : decide (s.1 = d.1)
 ·(have hF := @c1; refine q1l (k:=?_); clear hF)
  exact Fin.tmp' rfl rfl
 ·cases c2 : decide (s.2.1 ≤ d.2)
  ·(have hF := (aI @c1 @c2); refine q1l (k:=?_); clear hF)
   exact Fin.tmp' rfl rfl
  ·(have hF := (aI @c1 @c2); refine q1l (k:=?_); clear hF)
   exact Fin.tmp' rfl rfl
def idxR (q : Sn → Bool) (l : List Sn) : Int := match l.findIdx? q with | some i => i | none => -1
theorem ev_k136 (l : List Sn) (hl : l.length ≤ 1000000000) (g : FuncId) (caps : List AVal) (hs : q0j caps = true) (hc : caps.map (fz (fun _ => false) NoM) = caps) (q : Sn → Bool) (hf : ∀ s ∈ l, Ev (En Tryz.prog rfl).P g (qro s :: caps) (.ret (.bool (q s)))) :
 Ev (En Tryz.prog rfl).P 136 [.sl 3 (q0c l), .fn g caps] (.ret (.int .i64 (idxR q l))) := by
 refine Ev.of_body it_k136 (by simp) (Run.start ?_)
 unfold t_k136
 have e4 : (q0c l).length = l.length := q1h _
 (have hF := @e4; refine q1l (k:=?_); clear hF)
 refine Run.rangeP l.length (fun i => ⟨tms [(0, .sl 3 (q0c l)), (1, .fn g caps), (7, .int .i64 l.length), (8, .int .i64 i)], NoM⟩) (fun i => ∀ x ∈ l.take i, q x = false) (Wk.clean _ ⟨rfl, rfl, rfl, rfl, trivial⟩ ⟨q04 l, hs, rfl, rfl, trivial⟩) (by simp) (fun i hi hI => ?_) (fun hI => ?_)
 ·obtain ⟨s, hsx⟩ : ∃ s, l[i]? = some s := ⟨l[i], by simp [hi]⟩
  have e1 : ((i : Int) < (l.length : Int)) = True := by simp only [eq_iff_iff, iff_true]; omega
  have e2 : (0 ≤ (i : Int)) = True := by simp
  have e3 : (q0c l)[i]? = some (.agg [.int .i64 s.1, .int .i64 s.2.1, .int .i64 s.2.2]) := q2h hsx
  have e13 : IntKind.i64.wrap ((i : Int) + 1) = ((i + 1 : Nat) : Int) := by rw [q3h (by omega)]; omega
  unfold qcr
  (have hF := (aI (aI @e1 @e2) (aI @e3 @e4)); refine q1l (k:=?_); clear hF)
  refine q2w (l := qro s :: caps) rfl ?_ (by simp [q0j, qro, AVal.stb, hs]) (hf s (List.mem_of_getElem? hsx)) ?_
  ·show _ :: caps.map (fz (fun _ => false) NoM) = _
   rw [hc]
   rfl
  cases hq : q s
  ·(have hF := (aI (aI @e1 @e2) (aI @e3 (aI @e4 @e13))); refine q1l (k:=?_); clear hF)
   refine Fin.nextP (Wk.clean _ ⟨rfl, rfl, rfl, rfl, trivial⟩ ⟨q04 l, hs, rfl, rfl, trivial⟩) (fun x hx => ?_)
   rw [List.take_add_one, hsx] at hx
   rcases List.mem_append.1 hx with hx | hx
   ·exact hI x hx
   ·simp at hx; subst hx; exact hq
  ·(have hF := (aI (aI @e1 @e2) (aI @e3 (aI @e4 @e13))); refine q1l (k:=?_); clear hF)
   have hidx : l.findIdx? q = some i := by
    rw [List.findIdx?_eq_some_iff_getElem]
    refine ⟨hi, by have := hsx; rw [List.getElem?_eq_getElem hi] at this; cases this; exact hq, fun j hj => ?_⟩
    have : l[j] ∈ l.take i := by rw [List.mem_take_iff_getElem]; exact ⟨j, by omega, rfl⟩
    simp [hI _ this]
   unfold idxR
   rw [hidx]
   exact Fin.outP_ret (Fin.block_ret (Fin.seq_ret (Fin.tmp' rfl rfl)))
 ·have e1 : ((l.length : Int) < (l.length : Int)) = False := by simp
  unfold qcr
  (have hF := @e1; refine q1l (k:=?_); clear hF)
  have hidx : l.findIdx? q = none := by
   rw [List.findIdx?_eq_none_iff]
   rw [List.take_length] at hI
   exact hI
  unfold idxR
  rw [hidx]
  exact Fin.tmp' rfl rfl
theorem idxR_any (q : Sn → Bool) (l : List Sn) : decide (0 ≤ idxR q l) = l.any q := by
 unfold idxR
 cases h : l.findIdx? q with
 | none =>
  rw [List.findIdx?_eq_none_iff] at h
  have : l.any q = false := by rw [List.any_eq_false]; intro x hx; simp [h x hx]
  rw [this]
  rfl
 | some i =>
  obtain ⟨hi, hq, _⟩ := List.findIdx?_eq_some_iff_getElem.1 h
  have : l.any q = true := List.any_eq_true.2 ⟨l[i], List.getElem_mem hi, hq⟩
  rw [this]
  simp
theorem ev_k99 (l : List Sn) (hl : l.length ≤ 1000000000) (g : FuncId) (caps : List AVal) (hs : q0j caps = true) (hc : caps.map (fz (fun _ => false) NoM) = caps)
 (hc2 : caps.map (fun c => match c with | .ptr k off => AVal.undef | c => fzc (fun _ => false) NoM c) = caps) (q : Sn → Bool) (hf : ∀ s ∈ l, Ev (En Tryz.prog rfl).P g (qro s :: caps) (.ret (.bool (q s)))) :
 Ev (En Tryz.prog rfl).P 99 [.sl 3 (q0c l), .fn g caps] (.ret (.bool (l.any q))) := by
 refine Ev.of_body it_k99 (by simp) (Run.start ?_)
 unfold t_k99
 rw [← idxR_any]
 (have hF := True.intro; refine q1l (k:=?_); clear hF)
 refine q2w (l := [.sl 3 (q0c l), .fn g caps]) rfl ?_ (by simp [q0j, AVal.stb, hs, q04]) (ev_k136 l hl g caps hs hc q hf) ?_
 ·show [AVal.sl 3 (q0c l), AVal.fn g _] = _
  congr 3
 (have hF := True.intro; refine q1l (k:=?_); clear hF)
 exact Fin.tmp' rfl rfl
def q1c (p : Pst) (d : Rn) : Bool := q3u d.1 d.2 && ((decide (d.1 < p.vec.length) && decide (d.2 ≤ q1o p.vec d.1.toNat)) || p.cloud.any (zaf d))
theorem qpe (p : Pst) (d : Rn) (hw : wt p ≤ 900000000) : Ev (En Tryz.prog rfl).P 51 [q0h p, q37 d] (.ret (.bool (q1c p d))) := by
 refine Ev.of_body it_k51 (by simp) (Run.start ?_)
 have hwt : wt p = p.vec.length + p.cloud.length := rfl
 have e0 : (q05 p.vec).length = p.vec.length := q0g _
 unfold t_k51 q0h
 have hx : q37 d = .agg [.int .i64 d.1, .int .i64 d.2] := rfl
 rw [hx]
 (have hF := True.intro; refine q1l (k:=?_); clear hF)
 refine q2w (l := [q37 d]) rfl rfl rfl (ev_k98 d) ?_
 unfold q1c
 cases c0 : q3u d.1 d.2
 ·(have hF := @e0; refine q1l (k:=?_); clear hF)
  exact Fin.tmp' rfl rfl
 ·have hd : 0 ≤ d.1 ∧ d.1 < 16 := by simp [q3u] at c0; omega
  obtain ⟨r, hr⟩ : ∃ r : Nat, d.1 = r := ⟨d.1.toNat, by omega⟩
  have hcall : Ev (En Tryz.prog rfl).P 99 [.sl 3 (q0c p.cloud), .fn 100 [.sptr [.int .i64 d.1, .int .i64 d.2]]] (.ret (.bool (p.cloud.any (zaf d)))) :=
   ev_k99 p.cloud (by omega) 100 _ rfl rfl rfl (zaf d) (fun s _ => ev_k100 d s)
  cases c1 : decide (d.1 < (p.vec.length : Int))
  ·(have hF := (aI @e0 @c1); refine q1l (k:=?_); clear hF)
   refine z81 (fun j => j == 3) (l := [.sl 3 (q0c p.cloud), .fn 100 [.sptr [.int .i64 d.1, .int .i64 d.2]]]) rfl rfl (by simp [q0j, AVal.stb, q04]) hcall rfl rfl ?_
   (have hF := @e0; refine q1l (k:=?_); clear hF)
   exact Fin.tmp' rfl rfl
  ·have hrl : r < p.vec.length := by simp at c1; omega
   have e1 : (q05 p.vec)[r]? = some (.int .i64 (q1o p.vec r)) := q0y (by simp [q1o, hrl])
   have e2 : (0 ≤ (r : Int)) = True := by simp
   have e3 : ((r : Int) < (p.vec.length : Int)) = True := by simp only [eq_iff_iff, iff_true]; omega
   rw [hr] at c1 hcall ⊢
   rw [Int.toNat_natCast]
   cases c2 : decide (d.2 ≤ q1o p.vec r)
   ·(have hF := (aI (aI @e0 (aI @e1 @e2)) (aI @e3 (aI @c1 @c2))); refine q1l (k:=?_); clear hF)
    refine z81 (fun j => j == 3) (l := [.sl 3 (q0c p.cloud), .fn 100 [.sptr [.int .i64 r, .int .i64 d.2]]]) rfl rfl (by simp [q0j, AVal.stb, q04]) hcall rfl rfl ?_
    (have hF := @e0; refine q1l (k:=?_); clear hF)
    exact Fin.tmp' rfl rfl
   ·(have hF := (aI (aI @e0 (aI @e1 @e2)) (aI @e3 (aI @c1 @c2))); refine q1l (k:=?_); clear hF)
    exact Fin.tmp' rfl rfl

def zcc : List SOp := [⟨some 2,.alloc 26,none⟩]
instance : Live zcc := ⟨[0]⟩
def zcb : List SOp := [⟨some 6,.build 151 #[],none⟩,⟨some 7,.box 151 (.tmp 6),none⟩,⟨some 3,.assign (.tmp 7),none⟩]
instance : Live zcb := ⟨[0,2]⟩
def zca : List SOp := [⟨some 8,.move (.tmp 0),none⟩,⟨some 9,.call ⟨.builtin .len,#[.tmp 8],#[38]⟩,none⟩,⟨some 10,.move (.const (.int .i64 0)),none⟩]
instance : Live zca := ⟨[0,2,3]⟩
def zc9 : List SOp := [⟨some 11,.binOp .lss 3 (.tmp 10) (.tmp 9) 3,none⟩]
instance : Live zc9 := ⟨[2,3,8,9,10]⟩
def zc8 : List SOp := [⟨some 12,.indexAddr 38 (.tmp 8) (.tmp 10),none⟩,⟨some 13,.load 41 (.tmp 12),none⟩,⟨some 5,.alloc 41,none⟩,⟨none,.store 41 (.tmp 5) (.tmp 13),none⟩]
instance : Live zc8 := ⟨[2,3,8,9,10]⟩
def zc7 : List SOp := [⟨some 14,.load 41 (.tmp 5),none⟩,⟨some 15,.call ⟨.value (.func 98),#[.tmp 14],#[41]⟩,none⟩]
instance : Live zc7 := ⟨[2,3,5,8,9,10]⟩
def qqu : List SOp := [⟨some 16,.move (.tmp 3),none⟩,⟨some 17,.fieldAddr 41 (.tmp 5) 0,none⟩,⟨some 18,.load 3 (.tmp 17),none⟩,⟨some 19,.move (.tmp 3),none⟩,⟨some 20,.fieldAddr 41 (.tmp 5) 0,none⟩,⟨some 21,.load 3 (.tmp 20),none⟩,⟨some 22,.nilCheck (.tmp 19),none⟩,⟨some 23,.indexAddr 151 (.tmp 22) (.tmp 21),none⟩,⟨some 24,.load 149 (.tmp 23),none⟩,⟨some 25,.fieldAddr 41 (.tmp 5) 1,none⟩,⟨some 26,.load 3 (.tmp 25),none⟩,⟨some 27,.fieldAddr 41 (.tmp 5) 1,none⟩,⟨some 28,.load 3 (.tmp 27),none⟩,⟨some 29,.build 179 #[(0,.tmp 26),(1,.tmp 28)],none⟩,⟨some 30,.buildSlice 149 1 #[(0,.tmp 29)],none⟩,⟨some 31,.call ⟨.builtin .append,#[.tmp 24,.tmp 30],#[149,149]⟩,none⟩,⟨some 32,.nilCheck (.tmp 16),none⟩,⟨some 33,.indexAddr 151 (.tmp 32) (.tmp 18),none⟩,⟨none,.store 149 (.tmp 33) (.tmp 31),none⟩]
instance : Live qqu := ⟨[2,3,5,8,9,10]⟩
instance : Rd qqu := ⟨fun j => j == 5⟩
def zc6 : List SOp := [⟨some 34,.binOp .add 3 (.tmp 10) (.const (.int .i64 1)) 3,none⟩,⟨some 10,.move (.tmp 34),none⟩]
instance : Live zc6 := ⟨[2,3,8,9,10]⟩
def zc5 : List SOp := [⟨some 35,.move (.tmp 3),none⟩,⟨some 36,.call ⟨.value (.func 97),#[.tmp 35],#[137]⟩,none⟩,⟨none,.store 26 (.tmp 2) (.tmp 36),none⟩]
instance : Live zc5 := ⟨[2,3]⟩
def qc4 : SC :=
 (.seq (.ops false zc9) (.seq (.cond (.tmp 11) .skip (.exit 0)) (.seq (.block 1 (.seq (.ops false zc8) (.seq (.ops false zc7) (.cond (.tmp 15) (.opsW [24] qqu) .skip)))) (.ops false zc6))))
def t_k94 : SC :=
 (.seq (.ops false zcc) (.seq (.ops false zcb) (.seq (.seq (.ops false zca) (.block 0 (.loop qc4))) (.seq (.ops false zc5) .ret))))
theorem it_k94 : FnIs Tryz.prog 94 37 [.cell 2 26] t_k94 := ⟨Tryz.f94, _, Tryz.func94, rfl, rfl, rfl, rfl, by kernel_rfl⟩

def q4a (t : Tab) (d : Rn) : Tab := if q3u d.1 d.2 = true then q6y t d.1.toNat (d.2, d.2) else t
theorem zjk {t : Tab} {d : Rn} (h : q3u d.1 d.2 = true) : q4a t d = q6y t d.1.toNat (d.2, d.2) := if_pos h
theorem z8j {t : Tab} {d : Rn} (h : q3u d.1 d.2 = false) : q4a t d = t := if_neg (by simp [h])
def ofT (ds : List Rn) : Tab := ds.foldl q4a q70
theorem TabLe.dot {t : Tab} {n : Nat} (h : TabLe t n) (d : Rn) : TabLe (q4a t d) (n + 1) := by
 unfold q4a
 split
 ·exact h.add _ _
 ·exact h.mono (by omega)
theorem TabLe.dots {t : Tab} {n : Nat} (h : TabLe t n) : ∀ c : List Rn, TabLe (c.foldl q4a t) (n + c.length)
 | [] => h
 | s :: c => by
  have := TabLe.dots (h.dot s) c
  simp only [List.foldl_cons, List.length_cons]
  exact this.mono (by omega)
theorem of_l1 {Q : Ex → AS → Prop} {k : Kont} (ds : List Rn) (hp : ds.length ≤ 1000000000)
 (h : Fin (En Tryz.prog rfl) 37 Q k .normal ⟨upd (tms [(2, .ptr 2 0), (3, .ptr 7 0), (8, .sl 2 (q08 ds)), (9, .int .i64 ds.length), (10, .int .i64 ds.length)]) 11 (.bool false), mms [(7, .cells (q52 (ofT ds))), (2, .cells [.nil, .nil])]⟩) :
 Run (En Tryz.prog rfl) 37 Q (.loop qc4) (.block 0 k) ⟨tms [(2, .ptr 2 0), (3, .ptr 7 0), (8, .sl 2 (q08 ds)), (9, .int .i64 ds.length), (10, .int .i64 0)], mms [(7, .cells (q52 q70)), (2, .cells [.nil, .nil])]⟩ := by
 refine Run.range ds.length (fun i => ⟨tms [(2, .ptr 2 0), (3, .ptr 7 0), (8, .sl 2 (q08 ds)), (9, .int .i64 ds.length), (10, .int .i64 i)], mms [(7, .cells (q52 ((ds.take i).foldl q4a q70))), (2, .cells [.nil, .nil])]⟩) (Wk.refl _ _) (fun i hi => ?_) ?_
 ·have hq0 := TabLe.dots qas (ds.take i)
  obtain ⟨s, hs⟩ : ∃ s, ds[i]? = some s := ⟨ds[i], by simp [hi]⟩
  rw [q34 q4a q70 ds hs]
  generalize (ds.take i).foldl q4a q70 = u at hq0 ⊢
  obtain ⟨q1, q2⟩ := hq0
  have e1 : ((i : Int) < (ds.length : Int)) = True := by simp only [eq_iff_iff, iff_true]; omega
  have e2 : (0 ≤ (i : Int)) = True := by simp
  have e3 : (q08 ds)[i]? = some (.agg [.int .i64 s.1, .int .i64 s.2]) := q3d hs
  have e4 : (q08 ds).length = ds.length := q0x _
  have e13 : IntKind.i64.wrap ((i : Int) + 1) = ((i + 1 : Nat) : Int) := by rw [q3h (by omega)]; omega
  unfold qc4
  (have hF := (aI (aI @e1 @e2) (aI @e3 @e4)); refine q1l (k:=?_); clear hF)
  refine q2w (l := [q37 s]) rfl rfl rfl (ev_k98 s) ?_
  cases c0 : q3u s.1 s.2
  ·rw [z8j c0]
   (have hF := (aI (aI @e1 @e2) (aI @e3 (aI @e4 @e13))); refine q1l (k:=?_); clear hF)
   exact Fin.next (Wk.toL _ _ ⟨rfl, rfl, rfl, rfl, rfl, trivial⟩ ⟨rfl, rfl, trivial⟩ ⟨rfl, rfl, q07 ds, rfl, rfl, trivial⟩ ⟨q2q _ _, rfl, trivial⟩)
  ·rw [zjk c0]
   have hd : 0 ≤ s.1 ∧ s.1 < 16 := by simp [q3u] at c0; omega
   obtain ⟨r, hr⟩ : ∃ r : Nat, s.1 = r := ⟨s.1.toNat, by omega⟩
   have hr16 : r < 16 := by omega
   have hru : r < u.length := by rw [q1]; exact hr16
   have e5 : (q52 u)[r]? = some (.own 2 (q08 (u.getD r []))) := qi4 hru
   have e6 : ((q52 u).set r .hole)[r]? = some .hole := qef hru
   have e7 := qi5 hru (s.2, s.2)
   simp only at e7
   have e8 : (q08 (u.getD r [])).length = (u.getD r []).length := q0x _
   have hq := q2 r
   have hcl : (ds.take i).length ≤ ds.length := by rw [List.length_take]; omega
   have e9 : (((u.getD r []).length + 1) * 16 ≤ 70368744177664) = True := by simp only [eq_iff_iff, iff_true]; omega
   have e10 : ((u.getD r []).length + 1 ≤ 4611686018427387904) = True := by simp only [eq_iff_iff, iff_true]; omega
   have e11 : (q52 u).length = 16 := by rw [qi3, q1]
   have e12 : (r + 1 ≤ 16) = True := by simp only [eq_iff_iff, iff_true]; omega
   have e14 : ((r : Int) < ((16 : Nat) : Int)) = True := by simp only [eq_iff_iff, iff_true]; omega
   have e15 : (0 ≤ (r : Int)) = True := by simp
   rw [hr] at ⊢
   rw [Int.toNat_natCast]
   (have hF := (aI (aI @e1 @e2) (aI @e3 @e4)); refine q1l (k:=?_); clear hF)
   ((with_reducible apply toW); refine stW (fun j => j == 5) (k:=?_))
   (have hF := (aI (aI (aI (aI @e1 @e2) (aI @e3 @e4)) (aI (aI @e5 @e6) (aI @e7 @e8))) (aI (aI (aI @e9 @e10) (aI @e11 @e12)) (aI (aI @e13 @e14) (aI @e15 @List.length_set.{0})))); refine q1l (k:=?_); clear hF)
   exact Fin.next (Wk.toL _ _ ⟨rfl, rfl, rfl, rfl, rfl, trivial⟩ ⟨rfl, rfl, trivial⟩ ⟨rfl, rfl, q07 ds, rfl, rfl, trivial⟩ ⟨q2q _ _, rfl, trivial⟩)
 ·have e1 : ((ds.length : Int) < (ds.length : Int)) = False := by simp
  have e3 : ds.take ds.length = ds := List.take_length
  rw [e3]
  unfold qc4
  (have hF := @e1; refine q1l (k:=?_); clear hF)
  exact h

def zed : List SOp := [⟨some 1,.box 26 (.tmp 0),none⟩,⟨some 2,.alloc 26,none⟩]
instance : Live zed := ⟨[0]⟩
def zec : List SOp := [⟨some 3,.load 26 (.tmp 1),none⟩,⟨some 4,.buildSlice 116 1 #[(0,.tmp 3)],none⟩,⟨some 5,.call ⟨.value (.func 96),#[.tmp 4],#[116]⟩,none⟩,⟨some 6,.call ⟨.value (.func 97),#[.tmp 5],#[137]⟩,none⟩,⟨none,.store 26 (.tmp 2) (.tmp 6),none⟩]
instance : Live zec := ⟨[1,2]⟩
def t_k64 : SC :=
 (.seq (.ops false zed) (.seq (.ops false zec) .ret))
theorem it_k64 : FnIs Tryz.prog 64 7 [.cell 2 26] t_k64 := ⟨Tryz.f64, _, Tryz.func64, rfl, rfl, rfl, rfl, by kernel_rfl⟩

def zh4 : List SOp := [⟨some 2,.alloc 26,none⟩]
instance : Live zh4 := ⟨[0]⟩
def zh3 : List SOp := [⟨some 3,.move (.tmp 0),none⟩,⟨some 4,.call ⟨.value (.func 96),#[.tmp 3],#[116]⟩,none⟩,⟨some 5,.call ⟨.value (.func 97),#[.tmp 4],#[137]⟩,none⟩,⟨none,.store 26 (.tmp 2) (.tmp 5),none⟩]
instance : Live zh3 := ⟨[0,2]⟩
def t_k49 : SC :=
 (.seq (.ops false zh4) (.seq (.ops false zh3) .ret))
theorem it_k49 : FnIs Tryz.prog 49 6 [.cell 2 26] t_k49 := ⟨Tryz.f49, _, Tryz.func49, rfl, rfl, rfl, rfl, by kernel_rfl⟩

theorem zlb (ps : List Pst) (q : Pst) (hl : ps.length ≤ 1000000000) (hw : (ps.map wt).sum ≤ 900000000) (h52 : Ev (En Tryz.prog rfl).P 97 [.sptr (q1w (q0k ps))] (.ret (q0h q))) : Ev (En Tryz.prog rfl).P 49 [.sl 2 (q1r ps)] (.ret (q0h q)) := by
 refine Ev.of_body it_k49 (by simp) (Run.start ?_)
 unfold t_k49
 (have hF := True.intro; refine q1l (k:=?_); clear hF)
 refine q2w (l := [.sl 2 (q1r ps)]) rfl rfl (by simp [q0j, AVal.stb, q0b]) (qfy ps hl hw) ?_
 (have hF := True.intro; refine q1l (k:=?_); clear hF)
 refine q2w (l := [.sptr (q1w (q0k ps))]) rfl rfl (by simp [q0j, AVal.stb, q1d]) h52 ?_
 unfold q0h
 (have hF := True.intro; refine q1l (k:=?_); clear hF)
 exact Fin.all rfl (by simp [q0j, AVal.stb, q03, q04, fzc, q5w]) rfl
theorem zl8 (p : Pst) (q : Pst) (hw : wt p ≤ 900000000) (h52 : Ev (En Tryz.prog rfl).P 97 [.sptr (q1w (q0k [p]))] (.ret (q0h q))) : Ev (En Tryz.prog rfl).P 64 [q0h p] (.ret (q0h q)) := by
 refine Ev.of_body it_k64 (by simp) (Run.start ?_)
 have hpx : q0h p = .agg [.sl 1 (q05 p.vec), .sl 3 (q0c p.cloud)] := rfl
 unfold t_k64
 rw [hpx]
 (have hF := True.intro; refine q1l (k:=?_); clear hF)
 refine q2w (l := [.sl 2 (q1r [p])]) rfl rfl (by simp [q0j, AVal.stb, q0b]) (qfy [p] (by simp) (by simpa using hw)) ?_
 (have hF := True.intro; refine q1l (k:=?_); clear hF)
 refine q2w (l := [.sptr (q1w (q0k [p]))]) rfl rfl (by simp [q0j, AVal.stb, q1d]) h52 ?_
 unfold q0h
 (have hF := True.intro; refine q1l (k:=?_); clear hF)
 exact Fin.all rfl (by simp [q0j, AVal.stb, q03, q04, fzc, q5w]) rfl

theorem zl7 (ds : List Rn) (q : Pst) (hl : ds.length ≤ 1000000000) (h52 : Ev (En Tryz.prog rfl).P 97 [.sptr (q1w (ofT ds))] (.ret (q0h q))) : Ev (En Tryz.prog rfl).P 94 [.sl 2 (q08 ds)] (.ret (q0h q)) := by
 refine Ev.of_body it_k94 (by simp) (Run.start ?_)
 unfold t_k94
 have e0 : (q08 ds).length = ds.length := q0x _
 (have hF := @e0; refine q1l (k:=?_); clear hF)
 refine Run.wk (Wk.trans (Wk.own_cells (k := 7) (cs' := q52 q70) rfl rfl ?_) (Wk.toL [(2, .ptr 2 0), (3, .ptr 7 0), (8, .sl 2 (q08 ds)), (9, .int .i64 ds.length), (10, .int .i64 0)] [(7, .cells (q52 q70)), (2, .cells [.nil, .nil])] ⟨rfl, rfl, rfl, rfl, rfl, trivial⟩ ⟨rfl, rfl, trivial⟩ ⟨rfl, rfl, q07 ds, rfl, rfl, trivial⟩ ⟨q2q _ _, rfl, trivial⟩)) ?_
 ·intro i x y hx hy
  have hx' : (List.replicate 16 AVal.nil)[i]? = some x := hx
  rw [List.getElem?_replicate] at hx'
  have hy' : (List.replicate 16 (AVal.own 2 []))[i]? = some y := hy
  rw [List.getElem?_replicate] at hy'
  split at hx'
  ·rename_i h16
   rw [if_pos h16] at hy'
   cases hx'; cases hy'
   exact .inr ⟨rfl, 2, rfl⟩
  ·cases hx'
 refine of_l1 ds hl ?_
 (have hF := @e0; refine q1l (k:=?_); clear hF)
 refine qie (fun j => j == 7) (l := [.sptr (q1w (ofT ds))]) rfl ?hl (by simp [q0j, AVal.stb, q1d]) h52 rfl ?k
 case hl =>
  show [AVal.sptr (((q52 (ofT ds)).map (fzc (fun j => j == 7) _)).drop 0)] = _
  simp [q52, q1w, fzc]
 unfold q0h
 (have hF := True.intro; refine q1l (k:=?_); clear hF)
 exact Fin.all rfl (by simp [q0j, AVal.stb, q03, q04, fzc, q5w]) rfl

def inT (t : Tab) (r : Nat) (n : Int) : Prop := mem1 (t.getD r []) n
def inP (p : Pst) (r : Nat) (n : Int) : Prop := r < 16 ∧ 1 ≤ n ∧ n ≤ 1000000000 ∧ ((r < p.vec.length ∧ n ≤ q1o p.vec r) ∨ ∃ s ∈ p.cloud, s.1 = (r : Int) ∧ s.2.1 ≤ n ∧ n ≤ s.2.2)
theorem qap {t : Tab} (k : Nat) (x : Rn) (r : Nat) : (q6y t k x).getD r [] = if r = k ∧ k < t.length then t.getD r [] ++ [x] else t.getD r [] := by
 unfold q6y
 simp only [List.getD_eq_getElem?_getD, List.getElem?_set]
 by_cases h : k = r
 ·subst h
  by_cases h2 : k < t.length
  ·simp [h2]
  ·simp [h2]
 ·rw [if_neg h, if_neg (fun hh => h hh.1.symm)]
theorem qka (v : List Int) (t : Tab) (ht : t.length = 16) : ∀ i, i ≤ 16 → ((List.range i).foldl (q3s v) t).length = 16 ∧ ∀ r, ((List.range i).foldl (q3s v) t).getD r [] = if r < i then t.getD r [] ++ [(1, q1o v r)] else t.getD r []
 | 0, _ => ⟨ht, fun r => by simp⟩
 | i + 1, hi => by
  obtain ⟨h1, h2⟩ := qka v t ht i (by omega)
  rw [q8d]
  generalize (List.range i).foldl (q3s v) t = u at h1 h2 ⊢
  refine ⟨by unfold q3s; rw [qaq, h1], fun r => ?_⟩
  unfold q3s
  rw [qap, h1, h2]
  by_cases hr : r = i
  ·subst hr
   rw [if_pos ⟨rfl, by omega⟩, if_neg (by omega), if_pos (by omega)]
  ·rw [if_neg (fun h => hr h.1)]
   by_cases hlt : r < i
   ·rw [if_pos hlt, if_pos (by omega)]
   ·rw [if_neg hlt, if_neg (by omega)]
def q97 (c : List Sn) (r : Nat) : List Rn := (c.filter fun s => decide (s.1 = (r : Int))).map fun s => s.2
theorem qpq (r : Nat) (hr : r < 16) : ∀ (c : List Sn) (t : Tab), t.length = 16 → (q4o c t).length = 16 ∧ (q4o c t).getD r [] = t.getD r [] ++ q97 c r
 | [], t, ht => ⟨ht, by simp [q4o, q97]⟩
 | s :: c, t, ht => by
  have hl : (putSn t s).length = 16 := by
   unfold putSn
   split
   ·rw [qaq, ht]
   ·exact ht
  obtain ⟨h1, h2⟩ := qpq r hr c (putSn t s) hl
  refine ⟨h1, ?_⟩
  show (q4o c (putSn t s)).getD r [] = _
  rw [h2]
  unfold putSn q97
  rw [List.filter_cons]
  by_cases hs : s.1 = (r : Int)
  ·rw [if_pos (by omega), qap, if_pos ⟨by omega, by omega⟩]
   simp [hs]
  ·simp only [hs, decide_false, Bool.false_eq_true, if_false]
   split
   ·rw [qap, if_neg (by omega)]
   ·rfl
theorem z8c (c : List Sn) (r : Nat) (n : Int) : inR (q97 c r) n ↔ ∃ s ∈ c, s.1 = (r : Int) ∧ s.2.1 ≤ n ∧ n ≤ s.2.2 := by
 constructor
 ·rintro ⟨x, hx, h1, h2⟩
  simp only [q97, List.mem_map, List.mem_filter, decide_eq_true_eq] at hx
  obtain ⟨s, ⟨hs, hr⟩, rfl⟩ := hx
  exact ⟨s, hs, hr, h1, h2⟩
 ·rintro ⟨s, hs, hr, h1, h2⟩
  exact ⟨s.2, by simp only [q97, List.mem_map, List.mem_filter, decide_eq_true_eq]; exact ⟨s, ⟨hs, hr⟩, rfl⟩, h1, h2⟩
theorem zju {t : Tab} (ht : t.length = 16) (p : Pst) {r : Nat} (hr : r < 16) : (q1m t p).length = 16 ∧ (q1m t p).getD r [] = (if r < p.vec.length then t.getD r [] ++ [(1, q1o p.vec r)] else t.getD r []) ++ q97 p.cloud r := by
 obtain ⟨h1, h2⟩ := qka p.vec t ht (min p.vec.length 16) (by omega)
 obtain ⟨h3, h4⟩ := qpq r hr p.cloud (q5s p.vec t) h1
 refine ⟨h3, ?_⟩
 show (q4o p.cloud (q5s p.vec t)).getD r [] = _
 rw [h4]
 unfold q5s
 rw [h2]
 by_cases h : r < p.vec.length
 ·rw [if_pos h, if_pos (by omega)]
 ·rw [if_neg h, if_neg (by omega)]
theorem one_in {t : Tab} (ht : t.length = 16) (p : Pst) {r : Nat} (hr : r < 16) (n : Int) : inT (q1m t p) r n ↔ inT t r n ∨ inP p r n := by
 unfold inT mem1
 rw [(zju ht p hr).2, q2l, z8c]
 unfold inP
 constructor
 ·rintro ⟨h1, h2, h | h⟩
  ·split at h
   ·rename_i hv
    rcases (q2l _ _ _).1 h with h | h
    ·exact .inl ⟨h1, h2, h⟩
    ·exact .inr ⟨hr, h1, h2, .inl ⟨hv, ((q79 _ _).1 h).2⟩⟩
   ·exact .inl ⟨h1, h2, h⟩
  ·exact .inr ⟨hr, h1, h2, .inr h⟩
 ·rintro (⟨h1, h2, h⟩ | ⟨_, h1, h2, h | h⟩)
  ·refine ⟨h1, h2, .inl ?_⟩
   split
   ·exact (q2l _ _ _).2 (.inl h)
   ·exact h
  ·refine ⟨h1, h2, .inl ?_⟩
   rw [if_pos h.1]
   exact (q2l _ _ _).2 (.inr ((q79 _ _).2 ⟨h1, h.2⟩))
  ·exact ⟨h1, h2, .inr h⟩
theorem zar (r : Nat) (n : Int) : ¬ inT q70 r n := by
 unfold inT mem1
 rintro ⟨_, _, h⟩
 have : q70.getD r [] = [] := by
  unfold q70
  rw [List.getD_eq_getElem?_getD, List.getElem?_replicate]
  split <;> rfl
 rw [this] at h
 exact q2e n h
theorem qdl {r : Nat} (hr : r < 16) (n : Int) : ∀ (ps : List Pst) (t : Tab), t.length = 16 → (inT (ps.foldl q1m t) r n ↔ inT t r n ∨ ∃ p ∈ ps, inP p r n)
 | [], t, ht => by simp
 | p :: ps, t, ht => by
  rw [List.foldl_cons, qdl hr n ps _ (zju ht p hr).1, one_in ht p hr]
  constructor
  ·rintro ((h | h) | ⟨q, hq, h⟩)
   ·exact .inl h
   ·exact .inr ⟨p, by simp, h⟩
   ·exact .inr ⟨q, by simp [hq], h⟩
  ·rintro (h | ⟨q, hq, h⟩)
   ·exact .inl (.inl h)
   ·rcases List.mem_cons.1 hq with rfl | hq
    ·exact .inl (.inr h)
    ·exact .inr ⟨q, hq, h⟩
theorem q6f {r : Nat} (hr : r < 16) (ps : List Pst) (n : Int) : inT (q0k ps) r n ↔ ∃ p ∈ ps, inP p r n := by
 unfold q0k
 rw [qdl hr n ps q70 rfl]
 exact ⟨fun h => h.elim (fun h => absurd h (zar r n)) id, .inr⟩
theorem zk9 {m : List Rn} (h : Can m) (n : Int) : inR m n ↔ (1 ≤ n ∧ n ≤ (q1q m).1) ∨ inR (q1q m).2 n := by
 cases m with
 | nil =>
  simp only [q1q]
  constructor
  ·exact .inr
  ·rintro (h | h)
   ·omega
   ·exact h
 | cons x l =>
  have hx := (Can.cons_iff.1 h).1
  unfold okR at hx
  by_cases h1 : x.1 = 1
  ·rw [qc9 h1, q0w]
   simp only [h1]
  ·rw [qc8 h1]
   constructor
   ·exact .inr
   ·rintro (h | h)
    ·omega
    ·exact h
theorem qfr {m : List Rn} (h : Can m) : Can (q1q m).2 ∧ 0 ≤ (q1q m).1 ∧ (q1q m).1 ≤ 1000000000 ∧ ∀ n, inR (q1q m).2 n → (q1q m).1 + 1 < n := by
 cases m with
 | nil => exact ⟨Can.nil, by simp [q1q], by simp [q1q], fun n hn => absurd hn (q2e n)⟩
 | cons x l =>
  have hx := (Can.cons_iff.1 h).1
  unfold okR at hx
  by_cases h1 : x.1 = 1
  ·rw [qc9 h1]
   exact ⟨h.tail, by show 0 ≤ x.2; omega, hx.2.2, fun n hn => h.above hn⟩
  ·rw [qc8 h1]
   refine ⟨h, Int.le_refl _, by show (0 : Int) ≤ _; omega, fun n hn => ?_⟩
   show (0 : Int) + 1 < n
   rcases (q0w x l n).1 hn with hn | hn
   ·omega
   ·have := h.above hn; omega
theorem qff (t : Tab) : ∀ (m r : Nat), r < m → q32 t m ≤ r → q9e t r ≤ 0
 | 0, r, hr, _ => by omega
 | m + 1, r, hr, h => by
  rw [q8c] at h
  split at h
  ·omega
  ·rename_i hl
   by_cases hrm : r = m
   ·subst hrm; omega
   ·exact qff t m r (by omega) h
theorem z90 (t : Tab) {m r : Nat} (h : r < m) : (q2u t m)[r]? = some (q9e t r) := by simp [q2u, h]
theorem zm7 (t : Tab) {m r : Nat} (hr : r < m) (n : Int) : (∃ s ∈ q1v t m, s.1 = (r : Int) ∧ s.2.1 ≤ n ∧ n ≤ s.2.2) ↔ inR (q6c t r) n := by
 constructor
 ·rintro ⟨s, hs, h1, h2, h3⟩
  simp only [q1v, List.mem_flatMap, List.mem_range, q68, List.mem_map] at hs
  obtain ⟨k, hk, x, hx, rfl⟩ := hs
  simp only [q9r] at h1 h2 h3
  have : k = r := by omega
  subst this
  exact ⟨x, hx, h2, h3⟩
 ·rintro ⟨x, hx, h2, h3⟩
  refine ⟨q9r r x, ?_, rfl, h2, h3⟩
  simp only [q1v, List.mem_flatMap, List.mem_range, q68, List.mem_map]
  exact ⟨r, hr, x, hx, rfl⟩
theorem qh8 (t : Tab) {r : Nat} (hr : r < 16) (n : Int) : inP (q6d t) r n ↔ inT t r n := by
 have hc := q1e (t.getD r [])
 have hlead := zk9 hc n
 rw [q2s] at hlead
 have hb := qfr hc
 have hcl := zm7 t hr n
 have hsz := q9t t 16
 unfold inP inT
 show r < 16 ∧ 1 ≤ n ∧ n ≤ 1000000000 ∧ ((r < ((q2u t 16).take (q32 t 16)).length ∧ n ≤ q1o ((q2u t 16).take (q32 t 16)) r) ∨ ∃ s ∈ q1v t 16, s.1 = (r : Int) ∧ s.2.1 ≤ n ∧ n ≤ s.2.2) ↔ _
 rw [hcl, hlead, List.length_take, q33]
 have hv : r < q32 t 16 → q1o ((q2u t 16).take (q32 t 16)) r = q9e t r := fun h => by
  unfold q1o
  rw [List.getD_eq_getElem?_getD, List.getElem?_take, if_pos h, z90 t hr]
  rfl
 constructor
 ·rintro ⟨_, h1, h2, ⟨h3, h4⟩ | h⟩
  ·rw [hv (by omega)] at h4
   exact .inl ⟨h1, h4⟩
  ·exact .inr h
 ·rintro (⟨h1, h2⟩ | h)
  ·refine ⟨hr, h1, by omega, .inl ?_⟩
   have : r < q32 t 16 := by
    rcases Nat.lt_or_ge r (q32 t 16) with h | h
    ·exact h
    ·have := qff t 16 r hr h
     unfold q9e at this
     omega
   exact ⟨by omega, by rw [hv this]; exact h2⟩
  ·have h1 := hb.1.bound h
   exact ⟨hr, h1.1, h1.2, .inr h⟩
theorem qa9 (a b : Int) : q3u a b = true ↔ 0 ≤ a ∧ a < 16 ∧ 1 ≤ b ∧ b ≤ 1000000000 := by
 simp only [q3u, Bool.and_eq_true, decide_eq_true_eq]
theorem q1s (p : Pst) (d : Rn) : q1c p d = true ↔ 0 ≤ d.1 ∧ inP p d.1.toNat d.2 := by
 unfold q1c inP
 rw [Bool.and_eq_true, qa9, Bool.or_eq_true, Bool.and_eq_true, decide_eq_true_eq, decide_eq_true_eq, List.any_eq_true]
 constructor
 ·rintro ⟨⟨h1, h2, h3, h4⟩, h⟩
  refine ⟨h1, by omega, h3, h4, ?_⟩
  rcases h with h | ⟨s, hs, h⟩
  ·exact .inl ⟨by omega, h.2⟩
  ·simp only [zaf, Bool.and_eq_true, decide_eq_true_eq] at h
   exact .inr ⟨s, hs, by omega, h.2⟩
 ·rintro ⟨h1, h2, h3, h4, h⟩
  refine ⟨⟨h1, by omega, h3, h4⟩, ?_⟩
  rcases h with h | ⟨s, hs, h⟩
  ·exact .inl ⟨by omega, h.2⟩
  ·refine .inr ⟨s, hs, ?_⟩
   simp only [zaf, Bool.and_eq_true, decide_eq_true_eq]
   exact ⟨by omega, h.2⟩
theorem qdu (ps : List Pst) : (q7t ps).length = 16 := by
 unfold q7t
 rw [List.length_map]
 exact (q1j ps).1
theorem zk4 (ps : List Pst) {r : Nat} (hr : r < 16) : (q7t ps).getD r [] = q0q ((q0k ps).getD r []) := by
 have h := (q1j ps).1
 unfold q7t
 simp [List.getD_eq_getElem?_getD, h, hr]
theorem z7o (r : Nat) (hr : r < 16) (n : Int) : ∀ (ds : List Rn) (t : Tab), t.length = 16 → (inT (ds.foldl q4a t) r n ↔ inT t r n ∨ (1 ≤ n ∧ n ≤ 1000000000 ∧ ((r : Int), n) ∈ ds))
 | [], t, ht => by simp
 | d :: ds, t, ht => by
  have hl : (q4a t d).length = 16 := by
   unfold q4a
   split
   ·rw [qaq, ht]
   ·exact ht
  rw [List.foldl_cons, z7o r hr n ds _ hl]
  have hd : inT (q4a t d) r n ↔ inT t r n ∨ (1 ≤ n ∧ n ≤ 1000000000 ∧ ((r : Int), n) = d) := by
   unfold inT mem1 q4a
   split
   ·rename_i h
    have hdot := (qa9 _ _).1 h
    rw [qap]
    split
    ·rename_i hk
     rw [q2l, q79]
     constructor
     ·rintro ⟨h1, h2, h3 | h3⟩
      ·exact .inl ⟨h1, h2, h3⟩
      ·exact .inr ⟨h1, h2, Prod.ext (by show (r : Int) = d.1; omega) (by show n = d.2; omega)⟩
     ·rintro (⟨h1, h2, h3⟩ | ⟨h1, h2, rfl⟩)
      ·exact ⟨h1, h2, .inl h3⟩
      ·exact ⟨h1, h2, .inr ⟨Int.le_refl _, Int.le_refl _⟩⟩
    ·rename_i hk
     constructor
     ·exact .inl
     ·rintro (h1 | ⟨h1, h2, rfl⟩)
      ·exact h1
      ·exact absurd ⟨by simp, by omega⟩ hk
   ·rename_i h
    constructor
    ·exact .inl
    ·rintro (h1 | ⟨h1, h2, rfl⟩)
     ·exact h1
     ·exact absurd ((qa9 _ _).2 ⟨by omega, by omega, h1, h2⟩) h
  rw [hd, List.mem_cons]
  constructor
  ·rintro ((h | ⟨h1, h2, h3⟩) | ⟨h1, h2, h3⟩)
   ·exact .inl h
   ·exact .inr ⟨h1, h2, .inl h3⟩
   ·exact .inr ⟨h1, h2, .inr h3⟩
  ·rintro (h | ⟨h1, h2, h3 | h3⟩)
   ·exact .inl (.inl h)
   ·exact .inl (.inr ⟨h1, h2, h3⟩)
   ·exact .inr ⟨h1, h2, h3⟩
def q1a (p : Pst) : Pst := q6d (q0k [p])
def q1t (ps : List Pst) : Pst := q6d (q0k ps)
def ofP (ds : List Rn) : Pst := q6d (ofT ds)
theorem zjx (ds : List Rn) {r : Nat} (hr : r < 16) (n : Int) : inP (ofP ds) r n ↔ 1 ≤ n ∧ n ≤ 1000000000 ∧ ((r : Int), n) ∈ ds := by
 unfold ofP
 rw [qh8 _ hr]
 unfold ofT
 rw [z7o r hr n ds q70 rfl]
 exact ⟨fun h => h.elim (fun h => absurd h (zar r n)) id, .inr⟩
theorem q65 (ps : List Pst) {r : Nat} (hr : r < 16) (n : Int) : inP (q1t ps) r n ↔ ∃ p ∈ ps, inP p r n := by
 unfold q1t
 rw [qh8 _ hr, q6f hr]

def qz6 : List SOp := [⟨some 2,.assign (.const (.int .i64 0)),none⟩]
instance : Live qz6 := ⟨[0]⟩
def qz5 : List SOp := [⟨some 3,.assign (.const (.int .i64 0)),none⟩]
instance : Live qz5 := ⟨[0]⟩
def qz4 : List SOp := [⟨some 6,.move (.tmp 0),none⟩,⟨some 7,.call ⟨.value (.func 156),#[.tmp 6],#[149]⟩,none⟩,⟨some 8,.call ⟨.builtin .len,#[.tmp 7],#[149]⟩,none⟩,⟨some 9,.move (.const (.int .i64 0)),none⟩]
instance : Live qz4 := ⟨[0,3]⟩
def qz3 : List SOp := [⟨some 10,.binOp .lss 3 (.tmp 9) (.tmp 8) 3,none⟩]
instance : Live qz3 := ⟨[3,7,8,9]⟩
def qz2 : List SOp := [⟨some 11,.indexAddr 149 (.tmp 7) (.tmp 9),none⟩,⟨some 12,.load 179 (.tmp 11),none⟩,⟨some 5,.alloc 179,none⟩,⟨none,.store 179 (.tmp 5) (.tmp 12),none⟩]
instance : Live qz2 := ⟨[3,7,8,9]⟩
def qz1 : List SOp := [⟨some 13,.move (.tmp 3),none⟩,⟨some 14,.fieldAddr 179 (.tmp 5) 1,none⟩,⟨some 15,.load 3 (.tmp 14),none⟩,⟨some 16,.fieldAddr 179 (.tmp 5) 0,none⟩,⟨some 17,.load 3 (.tmp 16),none⟩,⟨some 18,.binOp .sub 3 (.tmp 15) (.tmp 17) 3,none⟩,⟨some 19,.binOp .add 3 (.tmp 18) (.const (.int .i64 1)) 3,none⟩,⟨some 20,.binOp .add 3 (.tmp 13) (.tmp 19) 3,none⟩,⟨some 3,.assign (.tmp 20),none⟩]
instance : Live qz1 := ⟨[3,5,7,8,9]⟩
def qz0 : List SOp := [⟨some 21,.binOp .add 3 (.tmp 9) (.const (.int .i64 1)) 3,none⟩,⟨some 9,.move (.tmp 21),none⟩]
instance : Live qz0 := ⟨[3,7,8,9]⟩
def qyz : List SOp := [⟨some 22,.move (.tmp 3),none⟩,⟨some 2,.assign (.tmp 22),none⟩]
instance : Live qyz := ⟨[3]⟩
def qcq : SC :=
 (.seq (.ops false qz3) (.seq (.cond (.tmp 10) .skip (.exit 0)) (.seq (.block 1 (.seq (.ops false qz2) (.ops false qz1))) (.ops false qz0))))
def t_k154 : SC :=
 (.seq (.ops false qz6) (.seq (.ops false qz5) (.seq (.seq (.ops false qz4) (.block 0 (.loop qcq))) (.seq (.ops false qyz) .ret))))
theorem it_k154 : FnIs Tryz.prog 154 23 [.tmp 2] t_k154 := ⟨Tryz.f154, _, Tryz.func154, rfl, rfl, rfl, rfl, by kernel_rfl⟩

def q1i (a : Int) (r : Rn) : Int := a + (r.2 - r.1 + 1)
def qf2 (m : List Rn) : Int := m.foldl q1i 0
def zjv (m : List Rn) : Prop := ∀ r ∈ m, 1 ≤ r.1 ∧ r.1 ≤ r.2 ∧ r.2 ≤ 1000000000
theorem q98 {m : List Rn} (h : zjv m) (a : Int) : a ≤ m.foldl q1i a ∧ m.foldl q1i a ≤ a + 1000000000 * (m.length : Int) := by
 induction m generalizing a with
 | nil => simp
 | cons r m ih =>
  have h1 := h r (by simp)
  have h2 := ih (fun x hx => h x (by simp [hx])) (q1i a r)
  simp only [List.foldl_cons, List.length_cons]
  unfold q1i at h2 ⊢
  omega
theorem z9h (l m : List Rn) (hm : m.length ≤ 1000000000) (hr : zjv m) (hN : Ev (En Tryz.prog rfl).P 156 [.sl 2 (q08 l)] (.ret (.sl 2 (q08 m)))) : Ev (En Tryz.prog rfl).P 154 [.sl 2 (q08 l)] (.ret (.int .i64 (qf2 m))) := by
 refine Ev.of_body it_k154 (by simp) (Run.start ?_)
 unfold t_k154
 have e0 : (q08 m).length = m.length := q0x m
 (have hF := True.intro; refine q1l (k:=?_); clear hF)
 refine q2w (l := [.sl 2 (q08 l)]) rfl rfl (by simp [q0j, AVal.stb, q07]) hN ?_
 (have hF := @e0; refine q1l (k:=?_); clear hF)
 refine Run.range m.length (fun i => ⟨tms [(3, .int .i64 ((m.take i).foldl q1i 0)), (7, .sl 2 (q08 m)), (8, .int .i64 m.length), (9, .int .i64 i)], NoM⟩) (Wk.clean _ ⟨rfl, rfl, rfl, rfl, trivial⟩ ⟨rfl, q07 m, rfl, rfl, trivial⟩) (fun i hi => ?_) ?_
 ·obtain ⟨r, hx⟩ : ∃ r, m[i]? = some r := ⟨m[i], by simp [hi]⟩
  have hrr := hr r (List.mem_of_getElem? hx)
  have hb := q98 (m := m.take i) (fun x hx => hr x (List.mem_of_mem_take hx)) 0
  have hlen : (m.take i).length ≤ 1000000000 := by rw [List.length_take]; omega
  rw [q34 q1i 0 m hx]
  generalize (m.take i).foldl q1i 0 = a at hb ⊢
  have e1 : ((i : Int) < (m.length : Int)) = True := by simp only [eq_iff_iff, iff_true]; omega
  have e2 : (0 ≤ (i : Int)) = True := by simp
  have e3 : (q08 m)[i]? = some (.agg [.int .i64 r.1, .int .i64 r.2]) := q3d hx
  have e4 : IntKind.i64.wrap (r.2 - r.1) = r.2 - r.1 := q3h (by omega)
  have e5 : IntKind.i64.wrap (r.2 - r.1 + 1) = r.2 - r.1 + 1 := q3h (by omega)
  have e6 : IntKind.i64.wrap (a + (r.2 - r.1 + 1)) = a + (r.2 - r.1 + 1) := q3h (by omega)
  have e13 : IntKind.i64.wrap ((i : Int) + 1) = ((i + 1 : Nat) : Int) := by rw [q3h (by omega)]; omega
  unfold qcq
  (have hF := (aI (aI (aI @e0 @e1) (aI @e2 @e3)) (aI (aI @e4 @e5) (aI @e6 @e13))); refine q1l (k:=?_); clear hF)
  exact Fin.next (Wk.clean _ ⟨rfl, rfl, rfl, rfl, trivial⟩ ⟨rfl, q07 m, rfl, rfl, trivial⟩)
 ·have e1 : ((m.length : Int) < (m.length : Int)) = False := by simp
  have e3 : m.take m.length = m := List.take_length
  rw [e3]
  unfold qcq
  (have hF := (aI @e0 @e1); refine q1l (k:=?_); clear hF)
  exact Fin.tmp' rfl rfl

def zh2 : List SOp := [⟨some 2,.box 26 (.tmp 0),none⟩,⟨some 3,.box 26 (.tmp 1),none⟩,⟨some 4,.assign (.const (.bool false)),none⟩]
instance : Live zh2 := ⟨[0,1]⟩
def zh1 : List SOp := [⟨some 7,.fieldAddr 26 (.tmp 2) 0,none⟩,⟨some 8,.load 23 (.tmp 7),none⟩,⟨some 9,.call ⟨.builtin .len,#[.tmp 8],#[23]⟩,none⟩,⟨some 10,.fieldAddr 26 (.tmp 3) 0,none⟩,⟨some 11,.load 23 (.tmp 10),none⟩,⟨some 12,.call ⟨.builtin .len,#[.tmp 11],#[23]⟩,none⟩,⟨some 13,.binOp .neq 3 (.tmp 9) (.tmp 12) 3,none⟩,⟨some 14,.move (.tmp 13),none⟩,⟨some 15,.fieldAddr 26 (.tmp 2) 1,some ((some 14),false)⟩,⟨some 16,.load 24 (.tmp 15),some ((some 14),false)⟩,⟨some 17,.call ⟨.builtin .len,#[.tmp 16],#[24]⟩,some ((some 14),false)⟩,⟨some 18,.fieldAddr 26 (.tmp 3) 1,some ((some 14),false)⟩,⟨some 19,.load 24 (.tmp 18),some ((some 14),false)⟩,⟨some 20,.call ⟨.builtin .len,#[.tmp 19],#[24]⟩,some ((some 14),false)⟩,⟨some 21,.binOp .neq 3 (.tmp 17) (.tmp 20) 3,some ((some 14),false)⟩,⟨some 22,.pick (.tmp 14) (.const (.bool true)) (.tmp 21),none⟩]
instance : Live zh1 := ⟨[2,3]⟩
def zh0 : List SOp := [⟨some 4,.assign (.const (.bool false)),none⟩]
instance : Live zh0 := ⟨[]⟩
def zgz : List SOp := [⟨some 5,.assign (.const (.int .i64 0)),none⟩]
instance : Live zgz := ⟨[2,3]⟩
def zgy : List SOp := [⟨some 23,.move (.tmp 5),none⟩,⟨some 24,.fieldAddr 26 (.tmp 2) 0,none⟩,⟨some 25,.load 23 (.tmp 24),none⟩,⟨some 26,.call ⟨.builtin .len,#[.tmp 25],#[23]⟩,none⟩,⟨some 27,.binOp .lss 3 (.tmp 23) (.tmp 26) 3,none⟩]
instance : Live zgy := ⟨[2,3,5]⟩
def zgx : List SOp := [⟨some 30,.fieldAddr 26 (.tmp 2) 0,none⟩,⟨some 31,.load 23 (.tmp 30),none⟩,⟨some 32,.move (.tmp 5),none⟩,⟨some 33,.indexAddr 23 (.tmp 31) (.tmp 32),none⟩,⟨some 34,.load 3 (.tmp 33),none⟩,⟨some 35,.fieldAddr 26 (.tmp 3) 0,none⟩,⟨some 36,.load 23 (.tmp 35),none⟩,⟨some 37,.move (.tmp 5),none⟩,⟨some 38,.indexAddr 23 (.tmp 36) (.tmp 37),none⟩,⟨some 39,.load 3 (.tmp 38),none⟩,⟨some 40,.binOp .neq 3 (.tmp 34) (.tmp 39) 3,none⟩]
instance : Live zgx := ⟨[2,3,5]⟩
def zgw : List SOp := [⟨some 4,.assign (.const (.bool false)),none⟩]
instance : Live zgw := ⟨[]⟩
def zgv : List SOp := [⟨some 28,.move (.tmp 5),none⟩,⟨some 29,.binOp .add 3 (.tmp 28) (.const (.int .i64 1)) 3,none⟩,⟨some 5,.assign (.tmp 29),none⟩]
instance : Live zgv := ⟨[2,3,5]⟩
def zgu : List SOp := [⟨some 6,.assign (.const (.int .i64 0)),none⟩]
instance : Live zgu := ⟨[2,3]⟩
def qug : List SOp := [⟨some 41,.move (.tmp 6),none⟩,⟨some 42,.fieldAddr 26 (.tmp 2) 1,none⟩,⟨some 43,.load 24 (.tmp 42),none⟩,⟨some 44,.call ⟨.builtin .len,#[.tmp 43],#[24]⟩,none⟩,⟨some 45,.binOp .lss 3 (.tmp 41) (.tmp 44) 3,none⟩]
instance : Live qug := ⟨[2,3,6]⟩
def quf : List SOp := [⟨some 48,.fieldAddr 26 (.tmp 2) 1,none⟩,⟨some 49,.load 24 (.tmp 48),none⟩,⟨some 50,.move (.tmp 6),none⟩,⟨some 51,.indexAddr 24 (.tmp 49) (.tmp 50),none⟩,⟨some 52,.load 127 (.tmp 51),none⟩,⟨some 53,.fieldAddr 26 (.tmp 3) 1,none⟩,⟨some 54,.load 24 (.tmp 53),none⟩,⟨some 55,.move (.tmp 6),none⟩,⟨some 56,.indexAddr 24 (.tmp 54) (.tmp 55),none⟩,⟨some 57,.load 127 (.tmp 56),none⟩,⟨some 58,.binOp .neq 127 (.tmp 52) (.tmp 57) 127,none⟩]
instance : Live quf := ⟨[2,3,6]⟩
def que : List SOp := [⟨some 4,.assign (.const (.bool false)),none⟩]
instance : Live que := ⟨[]⟩
def qud : List SOp := [⟨some 46,.move (.tmp 6),none⟩,⟨some 47,.binOp .add 3 (.tmp 46) (.const (.int .i64 1)) 3,none⟩,⟨some 6,.assign (.tmp 47),none⟩]
instance : Live qud := ⟨[2,3,6]⟩
def quc : List SOp := [⟨some 4,.assign (.const (.bool true)),none⟩]
instance : Live quc := ⟨[]⟩
def qgm : SC :=
 (.seq (.seq (.ops false zgy) (.cond (.tmp 27) .skip (.exit 0))) (.seq (.block 1 (.seq (.ops true zgx) (.cond (.tmp 40) (.seq (.ops false zgw) .ret) .skip))) (.ops false zgv)))
def qgl : SC :=
 (.seq (.seq (.ops false qug) (.cond (.tmp 45) .skip (.exit 2))) (.seq (.block 3 (.seq (.ops true quf) (.cond (.tmp 58) (.seq (.ops false que) .ret) .skip))) (.ops false qud)))
def t_k50 : SC :=
 (.seq (.ops false zh2) (.seq (.seq (.ops false zh1) (.cond (.tmp 22) (.seq (.ops false zh0) .ret) .skip)) (.seq (.seq (.ops false zgz) (.block 0 (.loop qgm))) (.seq (.seq (.ops false zgu) (.block 2 (.loop qgl))) (.seq (.ops false quc) .ret)))))
theorem it_k50 : FnIs Tryz.prog 50 59 [.tmp 4] t_k50 := ⟨Tryz.f50, _, Tryz.func50, rfl, rfl, rfl, rfl, by kernel_rfl⟩

def qqs (a b : Pst) : Bool := decide (a.vec = b.vec ∧ a.cloud = b.cloud)
theorem q59 {a b : Pst} (h : ¬ (a.vec = b.vec ∧ a.cloud = b.cloud)) : qqs a b = false := by simp [qqs, h]
theorem qau {a b : Pst} (h : a.vec = b.vec ∧ a.cloud = b.cloud) : qqs a b = true := by simp [qqs, h]
theorem qbi {α : Type} {l m : List α} {i : Nat} {x : α} (h : l.take i = m.take i) (h1 : l[i]? = some x) (h2 : m[i]? = some x) : l.take (i + 1) = m.take (i + 1) := by
 rw [List.take_add_one, List.take_add_one, h, h1, h2]
theorem zla (a b : Pst) (ha : a.vec.length ≤ 1000000000) (hb : a.cloud.length ≤ 1000000000) : Ev (En Tryz.prog rfl).P 50 [q0h a, q0h b] (.ret (.bool (qqs a b))) := by
 refine Ev.of_body it_k50 (by simp) (Run.start ?_)
 have e0 : (q05 a.vec).length = a.vec.length := q0g _
 have e1 : (q05 b.vec).length = b.vec.length := q0g _
 have e2 : (q0c a.cloud).length = a.cloud.length := q1h _
 have e3 : (q0c b.cloud).length = b.cloud.length := q1h _
 unfold t_k50 q0h
 by_cases c1 : a.vec.length = b.vec.length
 ·have d1 : (!decide ((a.vec.length : Int) = (b.vec.length : Int))) = false := by simp; omega
  by_cases c2 : a.cloud.length = b.cloud.length
  ·have d2 : (!decide ((a.cloud.length : Int) = (b.cloud.length : Int))) = false := by simp; omega
   (have hF := (aI (aI @e0 (aI @e1 @e2)) (aI @e3 (aI @d1 @d2))); refine q1l (k:=?_); clear hF)
   refine Run.rangeP a.vec.length (fun i => ⟨tms [(2, .ptr 2 0), (3, .ptr 3 0), (5, .int .i64 i)], mms [(2, .cells [.sl 1 (q05 a.vec), .sl 3 (q0c a.cloud)]), (3, .cells [.sl 1 (q05 b.vec), .sl 3 (q0c b.cloud)])]⟩) (fun i => a.vec.take i = b.vec.take i)
    (Wk.toL _ _ ⟨rfl, rfl, rfl, trivial⟩ ⟨rfl, rfl, trivial⟩ ⟨rfl, rfl, rfl, trivial⟩ ⟨by simp [ABlk.no, AVal.noC, AVal.no, AVal.stb, q03, q04], by simp [ABlk.no, AVal.noC, AVal.no, AVal.stb, q03, q04], trivial⟩) (by simp) (fun i hi hI => ?_) (fun hI => ?_)
   ·obtain ⟨x, hx⟩ : ∃ x, a.vec[i]? = some x := ⟨a.vec[i], by simp [hi]⟩
    obtain ⟨y, hy⟩ : ∃ y, b.vec[i]? = some y := ⟨b.vec[i]'(by omega), by simp [show i < b.vec.length by omega]⟩
    have f1 : ((i : Int) < (a.vec.length : Int)) = True := by simp only [eq_iff_iff, iff_true]; omega
    have f2 : (0 ≤ (i : Int)) = True := by simp
    have f3 : ((i : Int) < (b.vec.length : Int)) = True := by simp only [eq_iff_iff, iff_true]; omega
    have f4 := q0y hx
    have f5 := q0y hy
    have e13 : IntKind.i64.wrap ((i : Int) + 1) = ((i + 1 : Nat) : Int) := by rw [q3h (by omega)]; omega
    unfold qgm
    by_cases c3 : x = y
    ·have d3 : (!decide (x = y)) = false := by simpa using c3
     (have hF := (aI (aI (aI @e0 @e1) (aI @e2 (aI @e3 @f1))) (aI (aI @f2 (aI @f3 @f4)) (aI @f5 (aI @d3 @e13)))); refine q1l (k:=?_); clear hF)
     exact Fin.nextP (Wk.toL _ _ ⟨rfl, rfl, rfl, trivial⟩ ⟨rfl, rfl, trivial⟩ ⟨rfl, rfl, rfl, trivial⟩ ⟨by simp [ABlk.no, AVal.noC, AVal.no, AVal.stb, q03, q04], by simp [ABlk.no, AVal.noC, AVal.no, AVal.stb, q03, q04], trivial⟩) (qbi hI hx (c3 ▸ hy))
    ·have d3 : (!decide (x = y)) = true := by simpa using c3
     rw [q59 (fun h => c3 (by have := hx; rw [h.1, hy] at this; exact (Option.some.inj this).symm))]
     (have hF := (aI (aI (aI @e0 @e1) (aI @e2 (aI @e3 @f1))) (aI (aI @f2 (aI @f3 @f4)) (aI @f5 (aI @d3 @e13)))); refine q1l (k:=?_); clear hF)
     exact Fin.outP_ret (Fin.block_ret (Fin.seq_ret (Fin.tmp' rfl rfl)))
   ·have hv : a.vec = b.vec := by
     rw [List.take_length] at hI
     rw [hI, c1, List.take_length]
    have f1 : ((a.vec.length : Int) < (a.vec.length : Int)) = False := by simp
    unfold qgm
    (have hF := (aI (aI @e0 @e1) (aI @e2 (aI @e3 @f1))); refine q1l (k:=?_); clear hF)
    refine Run.rangeP a.cloud.length (fun i => ⟨tms [(2, .ptr 2 0), (3, .ptr 3 0), (6, .int .i64 i)], mms [(2, .cells [.sl 1 (q05 a.vec), .sl 3 (q0c a.cloud)]), (3, .cells [.sl 1 (q05 b.vec), .sl 3 (q0c b.cloud)])]⟩) (fun i => a.cloud.take i = b.cloud.take i)
     (Wk.toL _ _ ⟨rfl, rfl, rfl, trivial⟩ ⟨rfl, rfl, trivial⟩ ⟨rfl, rfl, rfl, trivial⟩ ⟨by simp [ABlk.no, AVal.noC, AVal.no, AVal.stb, q03, q04], by simp [ABlk.no, AVal.noC, AVal.no, AVal.stb, q03, q04], trivial⟩) (by simp) (fun i hi hI2 => ?_) (fun hI2 => ?_)
    ·obtain ⟨x, hx⟩ : ∃ x, a.cloud[i]? = some x := ⟨a.cloud[i], by simp [hi]⟩
     obtain ⟨y, hy⟩ : ∃ y, b.cloud[i]? = some y := ⟨b.cloud[i]'(by omega), by simp [show i < b.cloud.length by omega]⟩
     have g1 : ((i : Int) < (a.cloud.length : Int)) = True := by simp only [eq_iff_iff, iff_true]; omega
     have g2 : (0 ≤ (i : Int)) = True := by simp
     have g3 : ((i : Int) < (b.cloud.length : Int)) = True := by simp only [eq_iff_iff, iff_true]; omega
     have g4 : (q0c a.cloud)[i]? = some (.agg [.int .i64 x.1, .int .i64 x.2.1, .int .i64 x.2.2]) := q2h hx
     have g5 : (q0c b.cloud)[i]? = some (.agg [.int .i64 y.1, .int .i64 y.2.1, .int .i64 y.2.2]) := q2h hy
     have e13 : IntKind.i64.wrap ((i : Int) + 1) = ((i + 1 : Nat) : Int) := by rw [q3h (by omega)]; omega
     unfold qgl
     by_cases c3 : x = y
     ·have d3 : decide (x.1 = y.1) = true := by simp [c3]
      have d4 : decide (x.2.1 = y.2.1) = true := by simp [c3]
      have d5 : decide (x.2.2 = y.2.2) = true := by simp [c3]
      (have hF := (aI (aI (aI @e0 (aI @e1 @e2)) (aI @e3 (aI @g1 @g2))) (aI (aI @g3 (aI @g4 @g5)) (aI (aI @d3 @d4) (aI @d5 @e13)))); refine q1l (k:=?_); clear hF)
      exact Fin.nextP (Wk.toL _ _ ⟨rfl, rfl, rfl, trivial⟩ ⟨rfl, rfl, trivial⟩ ⟨rfl, rfl, rfl, trivial⟩ ⟨by simp [ABlk.no, AVal.noC, AVal.no, AVal.stb, q03, q04], by simp [ABlk.no, AVal.noC, AVal.no, AVal.stb, q03, q04], trivial⟩) (qbi hI2 hx (c3 ▸ hy))
     ·rw [q59 (fun h => c3 (by have := hx; rw [h.2, hy] at this; exact (Option.some.inj this).symm))]
      by_cases h1 : x.1 = y.1
      ·have d3 : decide (x.1 = y.1) = true := by simpa using h1
       by_cases h2 : x.2.1 = y.2.1
       ·have d4 : decide (x.2.1 = y.2.1) = true := by simpa using h2
        have h3 : ¬ x.2.2 = y.2.2 := fun h3 => c3 (Prod.ext h1 (Prod.ext h2 h3))
        have d5 : decide (x.2.2 = y.2.2) = false := by simpa using h3
        (have hF := (aI (aI (aI @e0 (aI @e1 @e2)) (aI @e3 (aI @g1 @g2))) (aI (aI @g3 (aI @g4 @g5)) (aI (aI @d3 @d4) (aI @d5 @e13)))); refine q1l (k:=?_); clear hF)
        exact Fin.outP_ret (Fin.block_ret (Fin.seq_ret (Fin.tmp' rfl rfl)))
       ·have d4 : decide (x.2.1 = y.2.1) = false := by simpa using h2
        (have hF := (aI (aI (aI @e0 (aI @e1 @e2)) (aI @e3 (aI @g1 @g2))) (aI (aI @g3 (aI @g4 @g5)) (aI @d3 (aI @d4 @e13)))); refine q1l (k:=?_); clear hF)
        exact Fin.outP_ret (Fin.block_ret (Fin.seq_ret (Fin.tmp' rfl rfl)))
      ·have d3 : decide (x.1 = y.1) = false := by simpa using h1
       (have hF := (aI (aI (aI @e0 @e1) (aI @e2 (aI @e3 @g1))) (aI (aI @g2 (aI @g3 @g4)) (aI @g5 (aI @d3 @e13)))); refine q1l (k:=?_); clear hF)
       exact Fin.outP_ret (Fin.block_ret (Fin.seq_ret (Fin.tmp' rfl rfl)))
    ·have hc : a.cloud = b.cloud := by
      rw [List.take_length] at hI2
      rw [hI2, c2, List.take_length]
     have f1 : ((a.cloud.length : Int) < (a.cloud.length : Int)) = False := by simp
     rw [qau ⟨hv, hc⟩]
     unfold qgl
     (have hF := (aI (aI @e0 @e1) (aI @e2 (aI @e3 @f1))); refine q1l (k:=?_); clear hF)
     exact Fin.tmp' rfl rfl
  ·rw [q59 (fun h => c2 (by rw [h.2]))]
   have d2 : (!decide ((a.cloud.length : Int) = (b.cloud.length : Int))) = true := by simp; omega
   (have hF := (aI (aI @e0 (aI @e1 @e2)) (aI @e3 (aI @d1 @d2))); refine q1l (k:=?_); clear hF)
   exact Fin.tmp' rfl rfl
 ·rw [q59 (fun h => c1 (by rw [h.1]))]
  have d1 : (!decide ((a.vec.length : Int) = (b.vec.length : Int))) = true := by simp; omega
  (have hF := (aI (aI @e0 @e1) (aI @e2 (aI @e3 @d1))); refine q1l (k:=?_); clear hF)
  exact Fin.tmp' rfl rfl


def z2a : List SOp := [⟨some 1,.box 26 (.tmp 0),none⟩,⟨some 2,.assign (.const (.int .i64 0)),none⟩]
instance : Live z2a := ⟨[0]⟩
def z29 : List SOp := [⟨some 3,.assign (.const (.int .i64 0)),none⟩]
instance : Live z29 := ⟨[1]⟩
def z28 : List SOp := [⟨some 6,.load 26 (.tmp 1),none⟩,⟨some 7,.buildSlice 116 1 #[(0,.tmp 6)],none⟩,⟨some 8,.call ⟨.value (.func 96),#[.tmp 7],#[116]⟩,none⟩,⟨some 9,.nilCheck (.tmp 8),none⟩,⟨some 10,.move (.const (.int .i64 0)),none⟩]
instance : Live z28 := ⟨[1,3]⟩
def z27 : List SOp := [⟨some 11,.binOp .lss 3 (.tmp 10) (.const (.int .i64 16)) 3,none⟩]
instance : Live z27 := ⟨[3,8,10]⟩
def z26 : List SOp := [⟨some 12,.nilCheck (.tmp 8),none⟩,⟨some 13,.indexAddr 151 (.tmp 12) (.tmp 10),none⟩,⟨some 14,.load 149 (.tmp 13),none⟩,⟨some 5,.assign (.tmp 14),none⟩]
instance : Live z26 := ⟨[3,8,10]⟩
def z24 : List SOp := [⟨some 15,.move (.tmp 3),none⟩,⟨some 16,.move (.tmp 5),none⟩,⟨some 17,.call ⟨.value (.func 154),#[.tmp 16],#[149]⟩,none⟩,⟨some 18,.binOp .add 3 (.tmp 15) (.tmp 17) 3,none⟩,⟨some 3,.assign (.tmp 18),none⟩]
instance : Live z24 := ⟨[3,5,8,10]⟩
def z23 : List SOp := [⟨some 19,.binOp .add 3 (.tmp 10) (.const (.int .i64 1)) 3,none⟩,⟨some 10,.move (.tmp 19),none⟩]
instance : Live z23 := ⟨[3,8,10]⟩
def z21 : List SOp := [⟨some 20,.move (.tmp 3),none⟩,⟨some 2,.assign (.tmp 20),none⟩]
instance : Live z21 := ⟨[3]⟩
def qjh : SC :=
 (.seq (.ops false z27) (.seq (.cond (.tmp 11) .skip (.exit 0)) (.seq (.block 1 (.seq (.ops false z26) (.ops false z24))) (.ops false z23))))
def t_k132 : SC :=
 (.seq (.ops false z2a) (.seq (.ops false z29) (.seq (.seq (.ops false z28) (.block 0 (.loop qjh))) (.seq (.ops false z21) .ret))))
theorem it_k132 : FnIs Tryz.prog 132 21 [.tmp 2] t_k132 := ⟨Tryz.f132, _, Tryz.func132, rfl, rfl, rfl, rfl, by kernel_rfl⟩

theorem zjw (ds : List Rn) : TabLe (ofT ds) ds.length := by
 have := TabLe.dots qas ds
 simpa [ofT] using this
theorem qfz (p : Pst) (hw : wt p ≤ 50000000) : Ev (En Tryz.prog rfl).P 64 [q0h p] (.ret (q0h (q1a p))) :=
 zl8 p _ (by omega) (z7k _ (n := wt p) (by simpa using q1j [p]) hw)
theorem ev_k49 (ps : List Pst) (hl : ps.length ≤ 1000000000) (hw : (ps.map wt).sum ≤ 50000000) : Ev (En Tryz.prog rfl).P 49 [.sl 2 (q1r ps)] (.ret (q0h (q1t ps))) :=
 zlb ps _ hl (by omega) (z7k _ (q1j ps) hw)
theorem ev_k94 (ds : List Rn) (hl : ds.length ≤ 50000000) : Ev (En Tryz.prog rfl).P 94 [.sl 2 (q08 ds)] (.ret (q0h (ofP ds))) :=
 zl7 ds _ (by omega) (z7k _ (zjw ds) hl)
theorem qgc {m : List Rn} (h : Can m) : zjv m := fun r hr => by have := h.2 r hr; unfold okR at this; omega
theorem ev_k154 (l : List Rn) (hl : l.length ≤ 50000000) : Ev (En Tryz.prog rfl).P 154 [.sl 2 (q08 l)] (.ret (.int .i64 (qf2 (q10 l)))) := by
 have h := q20 l
 exact z9h l (q10 l) (by omega) (qgc (q1e l)) (qeb l (by omega))
def q28 (t : Tab) (n : Nat) : Int := (List.range n).foldl (fun a r => a + qf2 (q10 (t.getD r []))) 0
theorem q60 (t : Tab) (n : Nat) : q28 t (n + 1) = q28 t n + qf2 (q10 (t.getD n [])) := by
 unfold q28
 rw [List.range_succ, List.foldl_append]
 rfl
theorem qcw (l : List Rn) {n : Nat} (h : l.length ≤ n) : 0 ≤ qf2 (q10 l) ∧ qf2 (q10 l) ≤ 1000000000 * (n : Int) := by
 have h1 := q98 (qgc (q1e l)) 0
 have h2 := q20 l
 unfold qf2
 omega
theorem q73 {t : Tab} {n : Nat} (h : TabLe t n) : ∀ m : Nat, 0 ≤ q28 t m ∧ q28 t m ≤ (m : Int) * (1000000000 * (n : Int))
 | 0 => by simp [q28]
 | m + 1 => by
  have h1 := q73 h m
  have h2 := qcw (t.getD m []) (h.2 m)
  rw [q60, Int.natCast_add, Int.add_mul]
  omega
def q3i (p : Pst) : Int := q28 (q0k [p]) 16
theorem ev_k132 (p : Pst) (hw : wt p ≤ 50000000) : Ev (En Tryz.prog rfl).P 132 [q0h p] (.ret (.int .i64 (q3i p))) := by
 refine Ev.of_body it_k132 (by simp) (Run.start ?_)
 unfold t_k132 q0h
 have ht : TabLe (q0k [p]) (wt p) := by simpa using q1j [p]
 have h16 : (q1w (q0k [p])).length = 16 := by rw [q5l, ht.1]
 (have hF := @h16; refine q01 (k:=?_); clear hF)
 refine q00 [.sl 2 (q1r [p])] (he := qfy [p] (by simp) (by simpa using (show wt p ≤ 900000000 by omega))) (k:=?_)
 (have hF := @h16; refine q01 (k:=?_); clear hF)
 have hs : q3i p = q28 (q0k [p]) 16 := rfl
 rw [hs]
 generalize q0k [p] = t at ht h16 ⊢
 refine Run.while (σ := Nat) (fun r => ⟨tms [(3, .int .i64 (q28 t r)), (8, .sptr (q1w t)), (10, .int .i64 r)], NoM⟩) (fun r => r ≤ 16) (fun r => 16 - r) 0 (Wk.clean _ ⟨rfl, rfl, rfl, trivial⟩ ⟨rfl, q1d t, rfl, trivial⟩) (Nat.zero_le _) ?_
 intro r hr
 unfold qjh
 by_cases hlt : r < 16
 ·have hrt : r < t.length := by rw [ht.1]; exact hlt
  have hq := ht.2 r
  have g1 := q85 (q6r hrt)
  have hb := q73 ht r
  have hb2 := qcw (t.getD r []) hq
  have hnx := q60 t r
  have hr16 : (r : Int) * (1000000000 * (wt p : Int)) ≤ 16 * (1000000000 * (wt p : Int)) := Int.mul_le_mul_of_nonneg_right (by omega) (by omega)
  (have hF := (aI @h16 @g1); refine q01 (k:=?_); clear hF)
  refine q00 [.sl 2 (q08 (t.getD r []))] (he := ev_k154 _ (by omega)) (k:=?_)
  (have hF := (aI @h16 @g1); refine q01 (k:=?_); clear hF)
  apply Fin.nextW (r + 1)
  case h => exact Wk.clean _ ⟨by simp [↓q72, ↓q40, hnx], rfl, rfl, trivial⟩ ⟨rfl, q1d t, rfl, trivial⟩
  omega
 ·rw [show r = 16 by omega]
  (have hF := @h16; refine q01 (k:=?_); clear hF)
  exact Fin.tmp' rfl rfl
theorem qbl {l c : List Rn} (hc : q0v l = c) (h : c.Pairwise leLo) : q10 l = c.foldl qf0 [] := by
 subst hc
 exact (z6w h (List.Perm.refl _)).symm
theorem qp3 (t : Tab) (r : Nat) : q10 (t.getD r []) = (t.map q10).getD r [] := by
 simp only [List.getD_eq_getElem?_getD, List.getElem?_map]
 cases t[r]? with
 | none => exact q4s Can.nil
 | some l => rfl
def pastN (m : Tab) : Pst :=
 ⟨((List.range 16).map fun r => (q1q (m.getD r [])).1).take ((List.range 16).foldl (fun a r => if 0 < (q1q (m.getD r [])).1 then r + 1 else a) 0), (List.range 16).flatMap fun r => (q1q (m.getD r [])).2.map (q9r r)⟩
theorem qdj (t : Tab) : q6d t = pastN (t.map q10) := by
 unfold q6d pastN q2u q32 q1v q68 q6c q9e
 simp only [qp3]

theorem qon {t t' : Tab} (h : t.length = 16) (h' : t'.length = 16) (hx : ∀ r, r < 16 → ∀ n, inT t r n ↔ inT t' r n) : q6d t = q6d t' := by
 have : t.map q10 = t'.map q10 := by
  refine List.ext_getElem (by simp [h, h']) fun i h1 h2 => ?_
  rw [List.length_map] at h1 h2
  rw [List.getElem_map, List.getElem_map]
  refine zk0 fun n => ?_
  have := hx i (by omega) n
  unfold inT at this
  simpa [List.getD_eq_getElem?_getD, h1, h2] using this
 rw [qdj, qdj, this]
theorem zkd {ps qs : List Pst} (h : ∀ r, r < 16 → ∀ n, (∃ p ∈ ps, inP p r n) ↔ ∃ p ∈ qs, inP p r n) : q1t ps = q1t qs :=
 qon (q1j ps).1 (q1j qs).1 fun r hr n => by rw [q6f hr, q6f hr, h r hr]
theorem z8p (p : Pst) : q1a p = q1t [p] := rfl
theorem qhb (p : Pst) {r : Nat} (hr : r < 16) (n : Int) : inP (q1a p) r n ↔ inP p r n := by
 rw [z8p, q65 _ hr]; simp
theorem zk1 {p q : Pst} (h : ∀ r, r < 16 → ∀ n, inP p r n ↔ inP q r n) : q1a p = q1a q := zkd fun r hr n => by simp [h r hr]
def CanP (p : Pst) : Prop := q1a p = p
theorem qrv (t : Tab) (h : t.length = 16) : CanP (q6d t) := qon (q1j _).1 h fun r hr n => by rw [q6f hr]; simp [qh8 t hr]
theorem q2i (ps : List Pst) : CanP (q1t ps) := qrv _ (q1j ps).1
theorem qam (p : Pst) : CanP (q1a p) := q2i [p]
theorem CanP.ext {p q : Pst} (hp : CanP p) (hq : CanP q) (h : ∀ r, r < 16 → ∀ n, inP p r n ↔ inP q r n) : p = q := by
 rw [← hp, ← hq]
 exact zk1 h
def tot (t : Tab) : Nat := (t.map List.length).sum
theorem zaz : ∀ (l : List Nat) (i : Nat), (l.getD i 0) ≤ l.sum
 | [], i => by simp
 | x :: l, 0 => by simp
 | x :: l, i + 1 => by have := zaz l i; simp at this ⊢; omega
theorem qfe : ∀ (t : Tab) (r : Nat) (l : List Rn), ((t.set r l).map List.length).sum ≤ (t.map List.length).sum + (l.length - (t.getD r []).length)
 | [], r, l => by simp
 | x :: t, 0, l => by simp; omega
 | x :: t, r + 1, l => by have := qfe t r l; simp at this ⊢; omega
theorem qqi (t : Tab) (r : Nat) (x : Rn) : tot (q6y t r x) ≤ tot t + 1 := by
 have := qfe t r (t.getD r [] ++ [x])
 unfold tot q6y
 simp only [List.length_append, List.length_cons, List.length_nil] at this
 omega
theorem qiw (v : List Int) (t : Tab) : ∀ i, tot ((List.range i).foldl (q3s v) t) ≤ tot t + i
 | 0 => Nat.le_refl _
 | i + 1 => by
  rw [q8d]
  have h1 := qiw v t i
  have h2 := qqi ((List.range i).foldl (q3s v) t) i (1, q1o v i)
  unfold q3s at *
  omega
theorem qix : ∀ (c : List Sn) (t : Tab), tot (q4o c t) ≤ tot t + c.length
 | [], t => Nat.le_refl _
 | s :: c, t => by
  have h1 := qix c (putSn t s)
  have h2 : tot (putSn t s) ≤ tot t + 1 := by
   unfold putSn
   split
   ·exact qqi _ _ _
   ·omega
  show tot (q4o c (putSn t s)) ≤ _
  simp only [List.length_cons]
  omega
theorem qsa : ∀ (ps : List Pst) (t : Tab), tot (ps.foldl q1m t) ≤ tot t + (ps.map wt).sum
 | [], t => Nat.le_refl _
 | p :: ps, t => by
  have h1 := qsa ps (q1m t p)
  have h2 : tot (q1m t p) ≤ tot t + wt p := by
   have a := qiw p.vec t (min p.vec.length 16)
   have b := qix p.cloud (q5s p.vec t)
   unfold q1m q5s wt at *
   omega
  simp only [List.foldl_cons, List.map_cons, List.sum_cons]
  omega
theorem qco (ps : List Pst) : tot (q0k ps) ≤ (ps.map wt).sum := by
 have h0 : tot q70 = 0 := by decide
 have := qsa ps q70
 unfold q0k
 omega
theorem qsb : ∀ (ds : List Rn) (t : Tab), tot (ds.foldl q4a t) ≤ tot t + ds.length
 | [], t => Nat.le_refl _
 | d :: ds, t => by
  have h1 := qsb ds (q4a t d)
  have h2 : tot (q4a t d) ≤ tot t + 1 := by
   unfold q4a
   split
   ·exact qqi _ _ _
   ·omega
  simp only [List.foldl_cons, List.length_cons]
  omega
theorem tot_ofT (ds : List Rn) : tot (ofT ds) ≤ ds.length := by
 have h0 : tot q70 = 0 := by decide
 have := qsb ds q70
 unfold ofT
 omega
theorem qt6 (t : Tab) : ∀ m, (q1v t m).length ≤ ((List.range m).map fun r => (t.getD r []).length).sum
 | 0 => by simp [q1v]
 | m + 1 => by
  rw [q7e, List.length_append, List.range_succ, List.map_append, List.sum_append]
  have h1 := qt6 t m
  have h2 : (q68 t m).length ≤ (t.getD m []).length := by
   have a := qb0 (q10 (t.getD m []))
   have b := q20 (t.getD m [])
   simp only [q68, q6c, List.length_map]
   omega
  simp only [List.map_cons, List.map_nil, List.sum_cons, List.sum_nil]
  omega
theorem qaw : ∀ (t : Tab), ((List.range t.length).map fun r => (t.getD r []).length).sum = tot t
 | t => by
  unfold tot
  congr 1
  refine List.ext_getElem (by simp) fun i h1 h2 => ?_
  simp at h1 h2 ⊢
  simp [h1]
theorem qdi {t : Tab} (h : t.length = 16) : wt (q6d t) ≤ 16 + tot t := by
 have h1 := qt6 t 16
 have h2 := qaw t
 rw [h] at h2
 show ((q2u t 16).take (q32 t 16)).length + (q1v t 16).length ≤ _
 rw [List.length_take, q33]
 omega
theorem qa6 (ps : List Pst) : wt (q1t ps) ≤ 16 + (ps.map wt).sum := by
 have h1 := qdi (q1j ps).1
 have h2 := qco ps
 show wt (q6d (q0k ps)) ≤ _
 omega
theorem ofP_wt (ds : List Rn) : wt (ofP ds) ≤ 16 + ds.length := by
 have h1 := qdi (zjw ds).1
 have h2 := tot_ofT ds
 show wt (q6d (ofT ds)) ≤ _
 omega
theorem q62 (p : Pst) : wt (q1a p) ≤ wt p + 16 := by
 have := qa6 [p]
 simp only [List.map_cons, List.map_nil, List.sum_cons, List.sum_nil] at this
 show wt (q1t [p]) ≤ _
 omega
theorem n9_ex : ∃ N : Nat, N = 1000000000 := ⟨_, rfl⟩
noncomputable def n9 : Nat := Classical.choose n9_ex
theorem n9_eq : n9 = 1000000000 := Classical.choose_spec n9_ex
open Classical in
noncomputable def q9g (q : Int → Prop) : Nat := (List.range n9).countP fun (i : Nat) => decide (q ((i : Int) + 1))
open Classical in
theorem q6a (q : Int → Prop) : q9g q = (List.range n9).countP fun (i : Nat) => decide (q ((i : Int) + 1)) := rfl
open Classical in
theorem qg7 {α : Type} (p q r s : α → Prop) (l : List α) (h : ∀ x, (if p x then 1 else 0) + (if q x then 1 else 0) = (if r x then 1 else 0) + (if s x then 1 else 0)) :
 l.countP (fun x => decide (p x)) + l.countP (fun x => decide (q x)) = l.countP (fun x => decide (r x)) + l.countP (fun x => decide (s x)) := by
 induction l with
 | nil => rfl
 | cons x l ih =>
  have := h x
  simp only [List.countP_cons, decide_eq_true_eq]
  omega
open Classical in
theorem z9z (p q : Int → Prop) : q9g (fun n => p n ∨ q n) + q9g (fun n => p n ∧ q n) = q9g p + q9g q := by
 simp only [q6a]
 refine qg7 _ _ _ _ _ fun x => ?_
 by_cases h1 : p ((x : Int) + 1) <;> by_cases h2 : q ((x : Int) + 1) <;> simp [h1, h2]
open Classical in
theorem zmf (p q : Int → Prop) : q9g (fun n => p n ∧ ¬ q n) + q9g (fun n => p n ∧ q n) = q9g p := by
 have h0 : q9g (fun _ => False) = 0 := by simp [q6a]
 have := qg7 (fun i : Nat => p ((i : Int) + 1) ∧ ¬ q ((i : Int) + 1)) (fun i : Nat => p ((i : Int) + 1) ∧ q ((i : Int) + 1)) (fun i : Nat => p ((i : Int) + 1)) (fun i : Nat => False) (List.range n9) (fun x => by
  by_cases h1 : p ((x : Int) + 1) <;> by_cases h2 : q ((x : Int) + 1) <;> simp [h1, h2])
 simp only [q6a] at h0 ⊢
 omega
theorem q6x {p q : Int → Prop} (h : ∀ n, 1 ≤ n → n ≤ 1000000000 → (p n ↔ q n)) : q9g p = q9g q := by
 classical
 simp only [q6a]
 refine List.countP_congr fun i hi => ?_
 rw [List.mem_range, n9_eq] at hi
 simp only [decide_eq_true_eq]
 exact h _ (by omega) (by omega)
theorem qei (a b : Nat) : ∀ N : Nat, (List.range N).countP (fun i => decide (a ≤ i ∧ i < b)) = min N b - min N a
 | 0 => by simp
 | N + 1 => by
  rw [List.range_succ, List.countP_append, qei a b N]
  by_cases h : a ≤ N ∧ N < b
  ·simp only [List.countP_cons, List.countP_nil, h, and_self, decide_true, if_true]
   omega
  ·simp only [List.countP_cons, List.countP_nil, h, decide_false, Bool.false_eq_true, if_false]
   omega
theorem z7v {a b : Int} (h1 : 1 ≤ a) (h2 : a ≤ b) (h3 : b ≤ 1000000000) : (q9g (fun n => a ≤ n ∧ n ≤ b) : Int) = b - a + 1 := by
 classical
 have h : q9g (fun n => a ≤ n ∧ n ≤ b) = min n9 b.toNat - min n9 (a - 1).toNat := by
  rw [← qei (a - 1).toNat b.toNat n9, q6a]
  refine List.countP_congr fun i hi => ?_
  simp only [decide_eq_true_eq]
  omega
 rw [h, n9_eq]
 omega
theorem q8w (m : List Rn) (a : Int) : m.foldl q1i a = a + m.foldl q1i 0 := by
 induction m generalizing a with
 | nil => simp
 | cons x m ih =>
  simp only [List.foldl_cons]
  rw [ih, ih (q1i 0 x)]
  unfold q1i
  omega
theorem qfg : ∀ {m : List Rn}, Can m → qf2 m = (q9g (inR m) : Int)
 | [], _ => by
  have : q9g (inR []) = 0 := by
   classical
   rw [q6a]
   exact List.countP_eq_zero.2 fun i _ => by simp [q2e]
  rw [this]; rfl
 | x :: m, h => by
  have hx := (Can.cons_iff.1 h).1
  unfold okR at hx
  have ih := qfg h.tail
  have h1 := z7v hx.1 hx.2.1 hx.2.2
  have h2 := z9z (fun n => x.1 ≤ n ∧ n ≤ x.2) (inR m)
  have h3 : q9g (fun n => (x.1 ≤ n ∧ n ≤ x.2) ∧ inR m n) = 0 := by
   classical
   rw [q6a]
   refine List.countP_eq_zero.2 fun i _ => ?_
   simp only [decide_eq_true_eq]
   rintro ⟨q1, q2⟩
   have := h.above q2
   omega
  have h4 : q9g (inR (x :: m)) = q9g (fun n => (x.1 ≤ n ∧ n ≤ x.2) ∨ inR m n) := q6x fun n _ _ => q0w x m n
  unfold qf2 at *
  rw [List.foldl_cons, q8w, ih, h4]
  unfold q1i
  omega
noncomputable def qbw (q : Nat → Int → Prop) : Nat → Nat
 | 0 => 0
 | m + 1 => qbw q m + q9g (q m)
theorem qet {q q' : Nat → Int → Prop} : ∀ {m : Nat}, (∀ r, r < m → ∀ n, 1 ≤ n → n ≤ 1000000000 → (q r n ↔ q' r n)) → qbw q m = qbw q' m
 | 0, _ => rfl
 | m + 1, h => by
  show qbw q m + q9g (q m) = qbw q' m + q9g (q' m)
  rw [qet (m := m) fun r hr => h r (by omega), q6x (h m (by omega))]
theorem qbk (t : Tab) : ∀ m, q28 t m = (qbw (inT t) m : Int)
 | 0 => rfl
 | m + 1 => by
  rw [q60, qbk t m, qfg (q1e _)]
  show _ = ((qbw (inT t) m + q9g (inT t m) : Nat) : Int)
  rw [q6x (p := inR (q10 (t.getD m []))) (q := inT t m) fun n _ _ => q2s _ n]
  omega
theorem qfh (p : Pst) : q3i p = (qbw (inP p) 16 : Int) := by
 unfold q3i
 rw [qbk]
 congr 1
 exact qet fun r hr n _ _ => by rw [q6f hr]; simp

def z6f : List SOp := [⟨some 4,.assign (.const (.bool false)),none⟩]
instance : Live z6f := ⟨[0,1]⟩
def z6e : List SOp := [⟨some 6,.move (.tmp 0),none⟩,⟨some 7,.call ⟨.builtin .len,#[.tmp 6],#[23]⟩,none⟩,⟨some 8,.move (.tmp 1),none⟩,⟨some 9,.call ⟨.builtin .len,#[.tmp 8],#[23]⟩,none⟩,⟨some 10,.binOp .neq 3 (.tmp 7) (.tmp 9) 3,none⟩]
instance : Live z6e := ⟨[0,1]⟩
def z6d : List SOp := [⟨some 4,.assign (.const (.bool false)),none⟩]
instance : Live z6d := ⟨[]⟩
def z6c : List SOp := [⟨some 11,.move (.tmp 0),none⟩,⟨some 12,.call ⟨.builtin .len,#[.tmp 11],#[23]⟩,none⟩,⟨some 13,.move (.const (.int .i64 0)),none⟩]
instance : Live z6c := ⟨[0,1]⟩
def z6b : List SOp := [⟨some 14,.binOp .lss 3 (.tmp 13) (.tmp 12) 3,none⟩]
instance : Live z6b := ⟨[0,1,12,13]⟩
def z6a : List SOp := [⟨some 15,.move (.tmp 13),none⟩,⟨some 5,.assign (.tmp 15),none⟩]
instance : Live z6a := ⟨[0,1,12,13]⟩
def z69 : List SOp := [⟨some 16,.move (.tmp 0),none⟩,⟨some 17,.move (.tmp 5),none⟩,⟨some 18,.indexAddr 23 (.tmp 16) (.tmp 17),none⟩,⟨some 19,.load 3 (.tmp 18),none⟩,⟨some 20,.move (.tmp 1),none⟩,⟨some 21,.move (.tmp 5),none⟩,⟨some 22,.indexAddr 23 (.tmp 20) (.tmp 21),none⟩,⟨some 23,.load 3 (.tmp 22),none⟩,⟨some 24,.binOp .neq 3 (.tmp 19) (.tmp 23) 3,none⟩]
instance : Live z69 := ⟨[0,1,5,12,13]⟩
def z68 : List SOp := [⟨some 4,.assign (.const (.bool false)),none⟩]
instance : Live z68 := ⟨[]⟩
def z67 : List SOp := [⟨some 25,.binOp .add 3 (.tmp 13) (.const (.int .i64 1)) 3,none⟩,⟨some 13,.move (.tmp 25),none⟩]
instance : Live z67 := ⟨[0,1,12,13]⟩
def qol : List SOp := [⟨some 4,.assign (.const (.bool true)),none⟩]
instance : Live qol := ⟨[]⟩
def qk1 : SC :=
 (.seq (.ops false z6b) (.seq (.cond (.tmp 14) .skip (.exit 0)) (.seq (.block 1 (.seq (.ops false z6a) (.seq (.ops true z69) (.cond (.tmp 24) (.seq (.ops false z68) .ret) .skip)))) (.ops false z67))))
def t_k103 : SC :=
 (.seq (.ops false z6f) (.seq (.seq (.ops false z6e) (.cond (.tmp 10) (.seq (.ops false z6d) .ret) .skip)) (.seq (.seq (.ops false z6c) (.block 0 (.loop qk1))) (.seq (.ops false qol) .ret))))
theorem it_k103 : FnIs Tryz.prog 103 26 [.tmp 4] t_k103 := ⟨Tryz.f103, _, Tryz.func103, rfl, rfl, rfl, rfl, by kernel_rfl⟩

def z65 : List SOp := [⟨some 4,.assign (.const (.bool false)),none⟩]
instance : Live z65 := ⟨[0,1]⟩
def z64 : List SOp := [⟨some 6,.move (.tmp 0),none⟩,⟨some 7,.call ⟨.builtin .len,#[.tmp 6],#[24]⟩,none⟩,⟨some 8,.move (.tmp 1),none⟩,⟨some 9,.call ⟨.builtin .len,#[.tmp 8],#[24]⟩,none⟩,⟨some 10,.binOp .neq 3 (.tmp 7) (.tmp 9) 3,none⟩]
instance : Live z64 := ⟨[0,1]⟩
def z63 : List SOp := [⟨some 4,.assign (.const (.bool false)),none⟩]
instance : Live z63 := ⟨[]⟩
def z62 : List SOp := [⟨some 11,.move (.tmp 0),none⟩,⟨some 12,.call ⟨.builtin .len,#[.tmp 11],#[24]⟩,none⟩,⟨some 13,.move (.const (.int .i64 0)),none⟩]
instance : Live z62 := ⟨[0,1]⟩
def z61 : List SOp := [⟨some 14,.binOp .lss 3 (.tmp 13) (.tmp 12) 3,none⟩]
instance : Live z61 := ⟨[0,1,12,13]⟩
def z60 : List SOp := [⟨some 15,.move (.tmp 13),none⟩,⟨some 5,.assign (.tmp 15),none⟩]
instance : Live z60 := ⟨[0,1,12,13]⟩
def z5z : List SOp := [⟨some 16,.move (.tmp 0),none⟩,⟨some 17,.move (.tmp 5),none⟩,⟨some 18,.indexAddr 24 (.tmp 16) (.tmp 17),none⟩,⟨some 19,.load 127 (.tmp 18),none⟩,⟨some 20,.move (.tmp 1),none⟩,⟨some 21,.move (.tmp 5),none⟩,⟨some 22,.indexAddr 24 (.tmp 20) (.tmp 21),none⟩,⟨some 23,.load 127 (.tmp 22),none⟩,⟨some 24,.binOp .neq 127 (.tmp 19) (.tmp 23) 127,none⟩]
instance : Live z5z := ⟨[0,1,5,12,13]⟩
def z5y : List SOp := [⟨some 4,.assign (.const (.bool false)),none⟩]
instance : Live z5y := ⟨[]⟩
def z5x : List SOp := [⟨some 25,.binOp .add 3 (.tmp 13) (.const (.int .i64 1)) 3,none⟩,⟨some 13,.move (.tmp 25),none⟩]
instance : Live z5x := ⟨[0,1,12,13]⟩
def qok : List SOp := [⟨some 4,.assign (.const (.bool true)),none⟩]
instance : Live qok := ⟨[]⟩
def qk0 : SC :=
 (.seq (.ops false z61) (.seq (.cond (.tmp 14) .skip (.exit 0)) (.seq (.block 1 (.seq (.ops false z60) (.seq (.ops true z5z) (.cond (.tmp 24) (.seq (.ops false z5y) .ret) .skip)))) (.ops false z5x))))
def t_k104 : SC :=
 (.seq (.ops false z65) (.seq (.seq (.ops false z64) (.cond (.tmp 10) (.seq (.ops false z63) .ret) .skip)) (.seq (.seq (.ops false z62) (.block 0 (.loop qk0))) (.seq (.ops false qok) .ret))))
theorem it_k104 : FnIs Tryz.prog 104 26 [.tmp 4] t_k104 := ⟨Tryz.f104, _, Tryz.func104, rfl, rfl, rfl, rfl, by kernel_rfl⟩

def zg7 : List SOp := [⟨some 1,.box 26 (.tmp 0),none⟩,⟨some 2,.assign (.const (.bool false)),none⟩]
instance : Live zg7 := ⟨[0]⟩
def zg6 : List SOp := [⟨some 4,.load 26 (.tmp 1),none⟩,⟨some 5,.call ⟨.value (.func 64),#[.tmp 4],#[26]⟩,none⟩,⟨some 3,.alloc 26,none⟩,⟨none,.store 26 (.tmp 3) (.tmp 5),none⟩]
instance : Live zg6 := ⟨[1]⟩
def zg5 : List SOp := [⟨some 6,.fieldAddr 26 (.tmp 1) 0,none⟩,⟨some 7,.load 23 (.tmp 6),none⟩,⟨some 8,.fieldAddr 26 (.tmp 3) 0,none⟩,⟨some 9,.load 23 (.tmp 8),none⟩,⟨some 10,.call ⟨.value (.func 103),#[.tmp 7,.tmp 9],#[23,23]⟩,none⟩,⟨some 11,.move (.tmp 10),none⟩,⟨some 12,.fieldAddr 26 (.tmp 1) 1,some ((some 11),true)⟩,⟨some 13,.load 24 (.tmp 12),some ((some 11),true)⟩,⟨some 14,.fieldAddr 26 (.tmp 3) 1,some ((some 11),true)⟩,⟨some 15,.load 24 (.tmp 14),some ((some 11),true)⟩,⟨some 16,.call ⟨.value (.func 104),#[.tmp 13,.tmp 15],#[24,24]⟩,some ((some 11),true)⟩,⟨some 17,.pick (.tmp 11) (.tmp 16) (.const (.bool false)),none⟩,⟨some 2,.assign (.tmp 17),none⟩]
instance : Live zg5 := ⟨[1,3]⟩
def t_k54 : SC :=
 (.seq (.ops false zg7) (.seq (.ops false zg6) (.seq (.ops false zg5) .ret)))
theorem it_k54 : FnIs Tryz.prog 54 18 [.tmp 2] t_k54 := ⟨Tryz.f54, _, Tryz.func54, rfl, rfl, rfl, rfl, by kernel_rfl⟩

theorem q4x {α : Type} {a b : List α} (hl : a.length = b.length) (h : ∀ j, j < a.length → a[j]? = b[j]?) : a = b := by
 refine List.ext_getElem? fun j => ?_
 by_cases hj : j < a.length
 ·exact h j hj
 ·rw [List.getElem?_eq_none (by omega), List.getElem?_eq_none (by omega)]
theorem q9n {α : Type} {a b : List α} {i : Nat} (h : ∀ j, j < i → a[j]? = b[j]?) (hi : a[i]? = b[i]?) : ∀ j, j < i + 1 → a[j]? = b[j]? := fun j hj => by
 by_cases e : j = i
 ·rw [e]; exact hi
 ·exact h j (by omega)
theorem ev_k103 (a b : List Int) (ha : a.length ≤ 1000000000) (hb : b.length ≤ 1000000000) : Ev (En Tryz.prog rfl).P 103 [.sl 1 (q05 a), .sl 1 (q05 b)] (.ret (.bool (decide (a = b)))) := by
 refine Ev.of_body it_k103 (by simp) (Run.start ?_)
 unfold t_k103
 have e1 := q0g a
 have e2 := q0g b
 (focus (have hF := (aI @e1 @e2); (repeat' (first | refine go1 (k:=?_) | with_reducible refine Ny.of ?_ ?_ | (refine Hyp.of ?_; intro hc; (try simp only [hc]); (try simp only [Bh] at hc)))); all_goals clear hF))
 ·rw [decide_eq_false fun h => hc (by rw [h])]
  exact Fin.tmp' rfl rfl
 ·refine Run.while (σ := Nat) (fun i => ⟨tms [(0, .sl 1 (q05 a)), (1, .sl 1 (q05 b)), (12, .int .i64 (a.length : Int)), (13, .int .i64 (i : Int))], mms []⟩) (fun i => i ≤ a.length ∧ ∀ j, j < i → a[j]? = b[j]?) (fun i => a.length - i) 0 (have hW := @q03; q0f) ⟨Nat.zero_le _, fun j hj => absurd hj (Nat.not_lt_zero _)⟩ ?_
  rintro i ⟨hi, hp⟩
  unfold qk1
  by_cases hlt : i < a.length
  ·obtain ⟨x, hx⟩ : ∃ x, a[i]? = some x := ⟨a[i], by simp [hlt]⟩
   obtain ⟨y, hy⟩ : ∃ y, b[i]? = some y := ⟨b[i]'(by omega), by simp [show i < b.length by omega]⟩
   have g1 := q0y hx
   have g2 := q0y hy
   (focus (have hF := (aI (aI @e1 @e2) (aI @g1 @g2)); (repeat' (first | refine go1 (k:=?_) | with_reducible refine Ny.of ?_ ?_ | (refine Hyp.of ?_; intro hc; (try simp only [hc]); (try simp only [Bh] at hc)))); all_goals clear hF))
   ·rw [decide_eq_false fun h => hc (by rw [h, hy] at hx; exact (Option.some.inj hx).symm)]
    exact Fin.tmp' rfl rfl
   ·have hs := q9n hp (hx.trans ((congrArg some hc).trans hy.symm))
    (refine Fin.nextW (i + 1) ?_ (have hW := @q03; q0f); (try dsimp only))
    exact ⟨⟨hlt, hs⟩, by omega⟩
  ·rw [decide_eq_true (q4x (by omega) fun j hj => hp j (by omega))]
   (have hF := (aI @e1 @e2); refine q01 (k:=?_); clear hF)
   exact Fin.tmp' rfl rfl
theorem ev_k104 (a b : List Sn) (ha : a.length ≤ 1000000000) (hb : b.length ≤ 1000000000) : Ev (En Tryz.prog rfl).P 104 [.sl 3 (q0c a), .sl 3 (q0c b)] (.ret (.bool (decide (a = b)))) := by
 refine Ev.of_body it_k104 (by simp) (Run.start ?_)
 unfold t_k104
 have e1 := q1h a
 have e2 := q1h b
 (focus (have hF := (aI @e1 @e2); (repeat' (first | refine go1 (k:=?_) | with_reducible refine Ny.of ?_ ?_ | (refine Hyp.of ?_; intro hc; (try simp only [hc]); (try simp only [Bh] at hc)))); all_goals clear hF))
 ·rw [decide_eq_false fun h => hc (by rw [h])]
  exact Fin.tmp' rfl rfl
 ·refine Run.while (σ := Nat) (fun i => ⟨tms [(0, .sl 3 (q0c a)), (1, .sl 3 (q0c b)), (12, .int .i64 (a.length : Int)), (13, .int .i64 (i : Int))], mms []⟩) (fun i => i ≤ a.length ∧ ∀ j, j < i → a[j]? = b[j]?) (fun i => a.length - i) 0 (have hW := @q04; q0f) ⟨Nat.zero_le _, fun j hj => absurd hj (Nat.not_lt_zero _)⟩ ?_
  rintro i ⟨hi, hp⟩
  unfold qk0
  by_cases hlt : i < a.length
  ·obtain ⟨x, hx⟩ : ∃ x, a[i]? = some x := ⟨a[i], by simp [hlt]⟩
   obtain ⟨y, hy⟩ : ∃ y, b[i]? = some y := ⟨b[i]'(by omega), by simp [show i < b.length by omega]⟩
   have g1 := q2h hx
   have g2 := q2h hy
   (focus (have hF := (aI (aI @e1 @e2) (aI @g1 @g2)); (repeat' (first | refine go1 (k:=?_) | with_reducible refine Ny.of ?_ ?_ | (refine Hyp.of ?_; intro hc; (try simp only [hc]); (try simp only [Bh] at hc)))); all_goals clear hF))
   ·rw [decide_eq_false fun h => by
     rw [h, hy] at hx
     have := Option.some.inj hx
     subst this
     simp at hc]
    exact Fin.tmp' rfl rfl
   ·have hxy : x = y := Prod.ext hc.1 (Prod.ext hc.2.1 hc.2.2)
    have hs := q9n hp (hx.trans ((congrArg some hxy).trans hy.symm))
    (refine Fin.nextW (i + 1) ?_ (have hW := @q04; q0f); (try dsimp only))
    exact ⟨⟨hlt, hs⟩, by omega⟩
  ·rw [decide_eq_true (q4x (by omega) fun j hj => hp j (by omega))]
   (have hF := (aI @e1 @e2); refine q01 (k:=?_); clear hF)
   exact Fin.tmp' rfl rfl
def q1g (p : Pst) : Bool := decide (p.vec = (q1a p).vec) && decide (p.cloud = (q1a p).cloud)
theorem q3k {p : Pst} : q1g p = true ↔ CanP p := by
 unfold q1g CanP
 rw [Bool.and_eq_true, decide_eq_true_eq, decide_eq_true_eq]
 constructor
 ·rintro ⟨h1, h2⟩
  have : ∀ q : Pst, p.vec = q.vec → p.cloud = q.cloud → q = p := fun q a b => by cases p; cases q; simp at a b; rw [a, b]
  exact this _ h1 h2
 ·intro h
  rw [h]
  exact ⟨rfl, rfl⟩
theorem qpc (p : Pst) (hw : wt p ≤ 40000000) : Ev (En Tryz.prog rfl).P 54 [q0h p] (.ret (.bool (q1g p))) := by
 refine Ev.of_body it_k54 (by simp) (Run.start ?_)
 unfold t_k54 q0h
 have c1 := qfz p (by omega)
 have hn := q62 p
 have hw1 : p.vec.length + p.cloud.length = wt p := rfl
 have hw2 : (q1a p).vec.length + (q1a p).cloud.length = wt (q1a p) := rfl
 have c2 := ev_k103 p.vec (q1a p).vec (by omega) (by omega)
 have c3 := ev_k104 p.cloud (q1a p).cloud (by omega) (by omega)
 (have hF := True.intro; refine q01 (k:=?_); clear hF)
 refine q00 [q0h p] (he := c1) (k:=?_)
 unfold q0h
 (have hF := True.intro; refine q01 (k:=?_); clear hF)
 by_cases hv : p.vec = (q1a p).vec
 ·have hr : q1g p = decide (p.cloud = (q1a p).cloud) := by unfold q1g; rw [decide_eq_true hv]; rfl
  rw [decide_eq_true hv] at c2
  rw [hr]
  refine q00 [.sl 1 (q05 p.vec), .sl 1 (q05 (q1a p).vec)] (he := c2) (k:=?_)
  (have hF := True.intro; refine q01 (k:=?_); clear hF)
  refine q00 [.sl 3 (q0c p.cloud), .sl 3 (q0c (q1a p).cloud)] (he := c3) (k:=?_)
  (have hF := True.intro; refine q01 (k:=?_); clear hF)
  exact Fin.tmp' rfl rfl
 ·have hr : q1g p = false := by unfold q1g; rw [decide_eq_false hv]; rfl
  rw [decide_eq_false hv] at c2
  rw [hr]
  refine q00 [.sl 1 (q05 p.vec), .sl 1 (q05 (q1a p).vec)] (he := c2) (k:=?_)
  (have hF := True.intro; refine q01 (k:=?_); clear hF)
  exact Fin.tmp' rfl rfl

def qwv : List SOp := [⟨some 2,.assign (.const (.bool false)),none⟩]
instance : Live qwv := ⟨[0]⟩
def qwu : List SOp := [⟨some 3,.move (.tmp 0),none⟩,⟨some 4,.move (.tmp 0),none⟩,⟨some 5,.binOp .neq 3 (.tmp 3) (.tmp 4) 3,none⟩,⟨some 2,.assign (.tmp 5),none⟩]
instance : Live qwu := ⟨[0]⟩
def t_k167 : SC :=
 (.seq (.ops false qwv) (.seq (.ops false qwu) .ret))
theorem it_k167 : FnIs Tryz.prog 167 6 [.tmp 2] t_k167 := ⟨Tryz.f167, _, Tryz.func167, rfl, rfl, rfl, rfl, by kernel_rfl⟩

def z08 : List SOp := [⟨some 4,.assign (.const (.int .i64 0)),none⟩]
instance : Live z08 := ⟨[0,1]⟩
def z07 : List SOp := [⟨some 7,.move (.tmp 0),none⟩,⟨some 8,.call ⟨.value (.func 167),#[.tmp 7],#[3]⟩,none⟩,⟨some 5,.assign (.tmp 8),none⟩]
instance : Live z07 := ⟨[0,1]⟩
def z06 : List SOp := [⟨some 9,.move (.tmp 1),none⟩,⟨some 10,.call ⟨.value (.func 167),#[.tmp 9],#[3]⟩,none⟩,⟨some 6,.assign (.tmp 10),none⟩]
instance : Live z06 := ⟨[0,1,5]⟩
def z05 : List SOp := [⟨some 11,.move (.tmp 5),none⟩]
instance : Live z05 := ⟨[0,1,5,6]⟩
def z04 : List SOp := [⟨some 12,.move (.tmp 6),none⟩]
instance : Live z04 := ⟨[6]⟩
def z03 : List SOp := [⟨some 4,.assign (.const (.int .i64 0)),none⟩]
instance : Live z03 := ⟨[]⟩
def z02 : List SOp := [⟨some 4,.assign (.const (.int .i64 (-1))),none⟩]
instance : Live z02 := ⟨[]⟩
def z01 : List SOp := [⟨some 13,.move (.tmp 6),none⟩]
instance : Live z01 := ⟨[0,1,6]⟩
def z00 : List SOp := [⟨some 4,.assign (.const (.int .i64 1)),none⟩]
instance : Live z00 := ⟨[]⟩
def qmk : List SOp := [⟨some 14,.move (.tmp 0),none⟩,⟨some 15,.move (.tmp 1),none⟩,⟨some 16,.binOp .lss 3 (.tmp 14) (.tmp 15) 3,none⟩]
instance : Live qmk := ⟨[0,1]⟩
def qmj : List SOp := [⟨some 4,.assign (.const (.int .i64 (-1))),none⟩]
instance : Live qmj := ⟨[]⟩
def qmi : List SOp := [⟨some 17,.move (.tmp 0),none⟩,⟨some 18,.move (.tmp 1),none⟩,⟨some 19,.binOp .gtr 3 (.tmp 17) (.tmp 18) 3,none⟩]
instance : Live qmi := ⟨[0,1]⟩
def qmh : List SOp := [⟨some 4,.assign (.const (.int .i64 1)),none⟩]
instance : Live qmh := ⟨[]⟩
def qmg : List SOp := [⟨some 4,.assign (.const (.int .i64 0)),none⟩]
instance : Live qmg := ⟨[]⟩
def t_k149 : SC :=
 (.seq (.ops false z08) (.seq (.ops false z07) (.seq (.ops false z06) (.seq (.seq (.ops false z05) (.cond (.tmp 11) (.seq (.seq (.ops false z04) (.cond (.tmp 12) (.seq (.ops false z03) .ret) .skip)) (.seq (.ops false z02) .ret)) .skip)) (.seq (.seq (.ops false z01) (.cond (.tmp 13) (.seq (.ops false z00) .ret) .skip)) (.seq (.seq (.ops false qmk) (.cond (.tmp 16) (.seq (.ops false qmj) .ret) .skip)) (.seq (.seq (.ops false qmi) (.cond (.tmp 19) (.seq (.ops false qmh) .ret) .skip)) (.seq (.ops false qmg) .ret))))))))
theorem it_k149 : FnIs Tryz.prog 149 20 [.tmp 4] t_k149 := ⟨Tryz.f149, _, Tryz.func149, rfl, rfl, rfl, rfl, by kernel_rfl⟩

def qzo : List SOp := [⟨some 2,.assign (.const (.int .i64 0)),none⟩]
instance : Live qzo := ⟨[0]⟩
def qzn : List SOp := [⟨some 3,.assign (.const (.int .i64 0)),none⟩]
instance : Live qzn := ⟨[0]⟩
def qzm : List SOp := [⟨some 6,.move (.tmp 0),none⟩,⟨some 7,.call ⟨.builtin .len,#[.tmp 6],#[23]⟩,none⟩,⟨some 8,.move (.const (.int .i64 0)),none⟩]
instance : Live qzm := ⟨[0,3]⟩
def qzl : List SOp := [⟨some 9,.binOp .lss 3 (.tmp 8) (.tmp 7) 3,none⟩]
instance : Live qzl := ⟨[3,6,7,8]⟩
def qzk : List SOp := [⟨some 10,.indexAddr 23 (.tmp 6) (.tmp 8),none⟩,⟨some 11,.load 3 (.tmp 10),none⟩,⟨some 5,.assign (.tmp 11),none⟩]
instance : Live qzk := ⟨[3,6,7,8]⟩
def qzj : List SOp := [⟨some 12,.move (.tmp 5),none⟩,⟨some 13,.move (.tmp 3),none⟩,⟨some 14,.binOp .neq 3 (.tmp 12) (.tmp 13) 3,none⟩]
instance : Live qzj := ⟨[3,5,6,7,8]⟩
def qzi : List SOp := [⟨some 15,.move (.tmp 5),none⟩,⟨some 2,.assign (.tmp 15),none⟩]
instance : Live qzi := ⟨[5]⟩
def qzh : List SOp := [⟨some 16,.binOp .add 3 (.tmp 8) (.const (.int .i64 1)) 3,none⟩,⟨some 8,.move (.tmp 16),none⟩]
instance : Live qzh := ⟨[3,6,7,8]⟩
def qzg : List SOp := [⟨some 17,.move (.tmp 3),none⟩,⟨some 2,.assign (.tmp 17),none⟩]
instance : Live qzg := ⟨[3]⟩
def qjc : SC :=
 (.seq (.ops false qzl) (.seq (.cond (.tmp 9) .skip (.exit 0)) (.seq (.block 1 (.seq (.ops false qzk) (.seq (.ops false qzj) (.cond (.tmp 14) (.seq (.ops false qzi) .ret) .skip)))) (.ops false qzh))))
def t_k152 : SC :=
 (.seq (.ops false qzo) (.seq (.ops false qzn) (.seq (.seq (.ops false qzm) (.block 0 (.loop qjc))) (.seq (.ops false qzg) .ret))))
theorem it_k152 : FnIs Tryz.prog 152 18 [.tmp 2] t_k152 := ⟨Tryz.f152, _, Tryz.func152, rfl, rfl, rfl, rfl, by kernel_rfl⟩

def qzq : List SOp := [⟨some 2,.box 127 (.tmp 0),none⟩,⟨some 3,.box 127 (.tmp 1),none⟩,⟨some 4,.assign (.const (.int .i64 0)),none⟩]
instance : Live qzq := ⟨[0,1]⟩
def qzp : List SOp := [⟨some 5,.fieldAddr 127 (.tmp 2) 0,none⟩,⟨some 6,.load 3 (.tmp 5),none⟩,⟨some 7,.fieldAddr 127 (.tmp 3) 0,none⟩,⟨some 8,.load 3 (.tmp 7),none⟩,⟨some 9,.call ⟨.value (.func 149),#[.tmp 6,.tmp 8],#[3,3]⟩,none⟩,⟨some 10,.fieldAddr 127 (.tmp 2) 1,none⟩,⟨some 11,.load 3 (.tmp 10),none⟩,⟨some 12,.fieldAddr 127 (.tmp 3) 1,none⟩,⟨some 13,.load 3 (.tmp 12),none⟩,⟨some 14,.call ⟨.value (.func 149),#[.tmp 11,.tmp 13],#[3,3]⟩,none⟩,⟨some 15,.fieldAddr 127 (.tmp 2) 2,none⟩,⟨some 16,.load 3 (.tmp 15),none⟩,⟨some 17,.fieldAddr 127 (.tmp 3) 2,none⟩,⟨some 18,.load 3 (.tmp 17),none⟩,⟨some 19,.call ⟨.value (.func 149),#[.tmp 16,.tmp 18],#[3,3]⟩,none⟩,⟨some 20,.buildSlice 23 3 #[(0,.tmp 9),(1,.tmp 14),(2,.tmp 19)],none⟩,⟨some 21,.call ⟨.value (.func 152),#[.tmp 20],#[23]⟩,none⟩,⟨some 4,.assign (.tmp 21),none⟩]
instance : Live qzp := ⟨[2,3]⟩
def t_k151 : SC :=
 (.seq (.ops false qzq) (.seq (.ops true qzp) .ret))
theorem it_k151 : FnIs Tryz.prog 151 22 [.tmp 4] t_k151 := ⟨Tryz.f151, _, Tryz.func151, rfl, rfl, rfl, rfl, by kernel_rfl⟩

def qzz : List SOp := [⟨some 6,.assign (.const (.int .i64 0)),none⟩]
instance : Live qzz := ⟨[0,1,2]⟩
def qzy : List SOp := [⟨some 11,.move (.tmp 0),none⟩,⟨some 12,.call ⟨.builtin .len,#[.tmp 11],#[24]⟩,none⟩,⟨some 13,.move (.const (.int .i64 0)),none⟩]
instance : Live qzy := ⟨[0,1,2]⟩
def qzx : List SOp := [⟨some 14,.binOp .lss 3 (.tmp 13) (.tmp 12) 3,none⟩]
instance : Live qzx := ⟨[0,1,2,11,12,13]⟩
def qzw : List SOp := [⟨some 15,.move (.tmp 13),none⟩,⟨some 16,.indexAddr 24 (.tmp 11) (.tmp 13),none⟩,⟨some 17,.load 127 (.tmp 16),none⟩,⟨some 8,.alloc 127,none⟩,⟨some 7,.assign (.tmp 15),none⟩,⟨none,.store 127 (.tmp 8) (.tmp 17),none⟩]
instance : Live qzw := ⟨[0,1,2,11,12,13]⟩
def qzv : List SOp := [⟨some 18,.move (.tmp 7),none⟩,⟨some 19,.move (.tmp 1),none⟩,⟨some 20,.call ⟨.builtin .len,#[.tmp 19],#[24]⟩,none⟩,⟨some 21,.binOp .geq 3 (.tmp 18) (.tmp 20) 3,none⟩]
instance : Live qzv := ⟨[0,1,2,7,8,11,12,13]⟩
def qzu : List SOp := [⟨some 6,.assign (.const (.int .i64 1)),none⟩]
instance : Live qzu := ⟨[]⟩
def qzt : List SOp := [⟨some 22,.move (.tmp 1),none⟩,⟨some 23,.move (.tmp 7),none⟩,⟨some 24,.indexAddr 24 (.tmp 22) (.tmp 23),none⟩,⟨some 25,.load 127 (.tmp 24),none⟩,⟨some 9,.alloc 127,none⟩,⟨none,.store 127 (.tmp 9) (.tmp 25),none⟩]
instance : Live qzt := ⟨[0,1,2,7,8,11,12,13]⟩
def qzs : List SOp := [⟨some 26,.move (.tmp 2),none⟩,⟨some 27,.load 127 (.tmp 8),none⟩,⟨some 28,.load 127 (.tmp 9),none⟩,⟨some 29,.call ⟨.value (.tmp 26),#[.tmp 27,.tmp 28],#[127,127]⟩,none⟩,⟨some 10,.assign (.tmp 29),none⟩]
instance : Live qzs := ⟨[0,1,2,8,9,11,12,13]⟩
def qzr : List SOp := [⟨some 30,.move (.tmp 10),none⟩,⟨some 31,.binOp .neq 3 (.tmp 30) (.const (.int .i64 0)) 3,none⟩]
instance : Live qzr := ⟨[0,1,2,10,11,12,13]⟩
def qmf : List SOp := [⟨some 32,.move (.tmp 10),none⟩,⟨some 6,.assign (.tmp 32),none⟩]
instance : Live qmf := ⟨[10]⟩
def qme : List SOp := [⟨some 33,.binOp .add 3 (.tmp 13) (.const (.int .i64 1)) 3,none⟩,⟨some 13,.move (.tmp 33),none⟩]
instance : Live qme := ⟨[0,1,2,11,12,13]⟩
def qmd : List SOp := [⟨some 34,.move (.tmp 0),none⟩,⟨some 35,.call ⟨.builtin .len,#[.tmp 34],#[24]⟩,none⟩,⟨some 36,.move (.tmp 1),none⟩,⟨some 37,.call ⟨.builtin .len,#[.tmp 36],#[24]⟩,none⟩,⟨some 38,.binOp .lss 3 (.tmp 35) (.tmp 37) 3,none⟩]
instance : Live qmd := ⟨[0,1]⟩
def qmc : List SOp := [⟨some 6,.assign (.const (.int .i64 (-1))),none⟩]
instance : Live qmc := ⟨[]⟩
def qmb : List SOp := [⟨some 6,.assign (.const (.int .i64 0)),none⟩]
instance : Live qmb := ⟨[]⟩
def qjd : SC :=
 (.seq (.ops false qzx) (.seq (.cond (.tmp 14) .skip (.exit 0)) (.seq (.block 1 (.seq (.ops false qzw) (.seq (.seq (.ops false qzv) (.cond (.tmp 21) (.seq (.ops false qzu) .ret) .skip)) (.seq (.ops false qzt) (.seq (.ops false qzs) (.seq (.ops false qzr) (.cond (.tmp 31) (.seq (.ops false qmf) .ret) .skip))))))) (.ops false qme))))
def t_k150 : SC :=
 (.seq (.ops false qzz) (.seq (.seq (.ops false qzy) (.block 0 (.loop qjd))) (.seq (.seq (.ops false qmd) (.cond (.tmp 38) (.seq (.ops false qmc) .ret) .skip)) (.seq (.ops false qmb) .ret))))
theorem it_k150 : FnIs Tryz.prog 150 39 [.tmp 6] t_k150 := ⟨Tryz.f150, _, Tryz.func150, rfl, rfl, rfl, rfl, by kernel_rfl⟩

def q7n (a b : Int) : Int := if a < b then -1 else if b < a then 1 else 0
theorem zlg (a : Int) : Ev (En Tryz.prog rfl).P 167 [.int .i64 a] (.ret (.bool false)) := by
 refine Ev.of_body it_k167 (by simp) (Run.start ?_)
 unfold t_k167
 (have hF := True.intro; refine q01 (k:=?_); clear hF)
 all_goals first | exact Fin.tmp' rfl rfl | trace_state
theorem qhx (a b : Int) : Ev (En Tryz.prog rfl).P 149 [.int .i64 a, .int .i64 b] (.ret (.int .i64 (q7n a b))) := by
 refine Ev.of_body it_k149 (by simp) (Run.start ?_)
 unfold t_k149
 (have hF := True.intro; refine q01 (k:=?_); clear hF)
 refine q00 [.int .i64 a] (he := zlg a) (k:=?_)
 (have hF := True.intro; refine q01 (k:=?_); clear hF)
 refine q00 [.int .i64 b] (he := zlg b) (k:=?_)
 (focus (have hF := True.intro; (repeat' (first | refine go1 (k:=?_) | with_reducible refine Ny.of ?_ ?_ | (refine Hyp.of ?_; intro hc; (try simp only [hc]); (try simp only [Bh] at hc)))); all_goals clear hF))
 ·rw [show q7n a b = -1 from if_pos hc]
  exact Fin.tmp' rfl rfl
 ·rename_i hc1
  rw [show q7n a b = 1 by unfold q7n; rw [if_neg hc1, if_pos hc]]
  exact Fin.tmp' rfl rfl
 ·rename_i hc1
  rw [show q7n a b = 0 by unfold q7n; rw [if_neg hc1, if_neg hc]]
  exact Fin.tmp' rfl rfl
def orI : List Int → Int
 | [] => 0
 | x :: l => if x = 0 then orI l else x
theorem orI_drop {l : List Int} {i : Nat} {x : Int} (h : l[i]? = some x) : orI (l.drop i) = if x = 0 then orI (l.drop (i + 1)) else x := by
 obtain ⟨hi, hx⟩ := List.getElem?_eq_some_iff.1 h
 rw [List.drop_eq_getElem_cons hi, hx]
 rfl
theorem ev_k152 (l : List Int) (hl : l.length ≤ 1000000000) : Ev (En Tryz.prog rfl).P 152 [.sl 1 (q05 l)] (.ret (.int .i64 (orI l))) := by
 refine Ev.of_body it_k152 (by simp) (Run.start ?_)
 unfold t_k152
 have e1 := q0g l
 (have hF := @e1; refine q01 (k:=?_); clear hF)
 refine Run.while (σ := Nat) (fun i => ⟨tms [(3, .int .i64 0), (6, .sl 1 (q05 l)), (7, .int .i64 (l.length : Int)), (8, .int .i64 (i : Int))], mms []⟩) (fun i => i ≤ l.length ∧ orI (l.drop i) = orI l) (fun i => l.length - i) 0 (have hW := @q03; q0f) ⟨Nat.zero_le _, by rw [List.drop_zero]⟩ ?_
 rintro i ⟨hi, hp⟩
 unfold qjc
 by_cases hlt : i < l.length
 ·obtain ⟨x, hx⟩ : ∃ x, l[i]? = some x := ⟨l[i], by simp [hlt]⟩
  have g1 := q0y hx
  have hd := orI_drop hx
  (focus (have hF := (aI @e1 @g1); (repeat' (first | refine go1 (k:=?_) | with_reducible refine Ny.of ?_ ?_ | (refine Hyp.of ?_; intro hc; (try simp only [hc]); (try simp only [Bh] at hc)))); all_goals clear hF))
  ·rw [if_neg hc] at hd
   rw [← hp, hd]
   exact Fin.tmp' rfl rfl
  ·rw [if_pos hc] at hd
   (refine Fin.nextW (i + 1) ?_ (have hW := @q03; q0f); (try dsimp only))
   exact ⟨⟨hlt, hd.symm.trans hp⟩, by omega⟩
 ·rw [← hp, List.drop_eq_nil_of_le (by omega)]
  (have hF := @e1; refine q01 (k:=?_); clear hF)
  exact Fin.tmp' rfl rfl
def cmpS (s t : Sn) : Int := orI [q7n s.1 t.1, q7n s.2.1 t.2.1, q7n s.2.2 t.2.2]
theorem ev_k151 (s t : Sn) : Ev (En Tryz.prog rfl).P 151 [qro s, qro t] (.ret (.int .i64 (cmpS s t))) := by
 refine Ev.of_body it_k151 (by simp) (Run.start ?_)
 unfold t_k151 qro
 (have hF := True.intro; refine q01 (k:=?_); clear hF)
 refine q00 [.int .i64 s.1, .int .i64 t.1] (he := qhx _ _) (k:=?_)
 (have hF := True.intro; refine q01 (k:=?_); clear hF)
 refine q00 [.int .i64 s.2.1, .int .i64 t.2.1] (he := qhx _ _) (k:=?_)
 (have hF := True.intro; refine q01 (k:=?_); clear hF)
 refine q00 [.int .i64 s.2.2, .int .i64 t.2.2] (he := qhx _ _) (k:=?_)
 (have hF := True.intro; refine q01 (k:=?_); clear hF)
 refine q00 [.sl 1 (q05 [q7n s.1 t.1, q7n s.2.1 t.2.1, q7n s.2.2 t.2.2])] (he := ev_k152 _ (by simp)) (k:=?_)
 (have hF := True.intro; refine q01 (k:=?_); clear hF)
 exact Fin.tmp' rfl rfl
def qil : List Sn → List Sn → Int
 | [], [] => 0
 | [], _ :: _ => -1
 | _ :: _, [] => 1
 | x :: l, y :: m => if cmpS x y = 0 then qil l m else cmpS x y
theorem q8v (a b : List Sn) (ha : a.length ≤ 1000000000) (hb : b.length ≤ 1000000000) : Ev (En Tryz.prog rfl).P 150 [.sl 3 (q0c a), .sl 3 (q0c b), .fn 151 []] (.ret (.int .i64 (qil a b))) := by
 refine Ev.of_body it_k150 (by simp) (Run.start ?_)
 unfold t_k150
 have e1 := q1h a
 have e2 := q1h b
 (have hF := (aI @e1 @e2); refine q01 (k:=?_); clear hF)
 refine Run.while (σ := Nat) (fun i => ⟨tms [(0, .sl 3 (q0c a)), (1, .sl 3 (q0c b)), (2, .fn 151 []), (11, .sl 3 (q0c a)), (12, .int .i64 (a.length : Int)), (13, .int .i64 (i : Int))], mms []⟩) (fun i => i ≤ a.length ∧ i ≤ b.length ∧ qil (a.drop i) (b.drop i) = qil a b) (fun i => a.length - i) 0 (have hW := @q04; q0f) ⟨Nat.zero_le _, Nat.zero_le _, by rw [List.drop_zero, List.drop_zero]⟩ ?_
 rintro i ⟨hi, hi2, hp⟩
 unfold qjd
 by_cases hlt : i < a.length
 ·obtain ⟨x, hx⟩ : ∃ x, a[i]? = some x := ⟨a[i], by simp [hlt]⟩
  have g1 := q2h hx
  obtain ⟨_, hxa⟩ := List.getElem?_eq_some_iff.1 hx
  by_cases hlb : i < b.length
  ·obtain ⟨y, hy⟩ : ∃ y, b[i]? = some y := ⟨b[i], by simp [hlb]⟩
   have g2 := q2h hy
   obtain ⟨_, hyb⟩ := List.getElem?_eq_some_iff.1 hy
   have hd : qil a b = if cmpS x y = 0 then qil (a.drop (i + 1)) (b.drop (i + 1)) else cmpS x y := by
    rw [← hp, List.drop_eq_getElem_cons hlt, List.drop_eq_getElem_cons hlb, hxa, hyb]
    rfl
   unfold qro at g1 g2
   (have hF := (aI (aI @e1 @e2) (aI @g1 @g2)); refine q01 (k:=?_); clear hF)
   refine q00 [.agg [.int .i64 x.1, .int .i64 x.2.1, .int .i64 x.2.2], .agg [.int .i64 y.1, .int .i64 y.2.1, .int .i64 y.2.2]] (he := ev_k151 x y) (k:=?_)
   (focus (have hF := (aI (aI @e1 @e2) (aI @g1 @g2)); (repeat' (first | refine go1 (k:=?_) | with_reducible refine Ny.of ?_ ?_ | (refine Hyp.of ?_; intro hc; (try simp only [hc]); (try simp only [Bh] at hc)))); all_goals clear hF))
   ·rw [if_neg hc] at hd
    rw [hd]
    exact Fin.tmp' rfl rfl
   ·rw [if_pos hc] at hd
    (refine Fin.nextW (i + 1) ?_ (have hW := @q04; q0f); (try dsimp only))
    exact ⟨⟨hlt, hlb, hd.symm⟩, by omega⟩
  ·have hd : qil a b = 1 := by
    rw [← hp, List.drop_eq_getElem_cons hlt, List.drop_eq_nil_of_le (show b.length ≤ i by omega)]
    rfl
   rw [hd]
   (have hF := (aI @e1 (aI @e2 @g1)); refine q01 (k:=?_); clear hF)
   exact Fin.tmp' rfl rfl
 ·have hia : i = a.length := by omega
  (focus (have hF := (aI @e1 @e2); (repeat' (first | refine go1 (k:=?_) | with_reducible refine Ny.of ?_ ?_ | (refine Hyp.of ?_; intro hc; (try simp only [hc]); (try simp only [Bh] at hc)))); all_goals clear hF))
  ·have hd : qil a b = -1 := by
    rw [← hp, List.drop_eq_nil_of_le (show a.length ≤ i by omega), List.drop_eq_getElem_cons (show i < b.length by omega)]
    rfl
   rw [hd]
   exact Fin.tmp' rfl rfl
  ·have hd : qil a b = 0 := by
    rw [← hp, List.drop_eq_nil_of_le (show a.length ≤ i by omega), List.drop_eq_nil_of_le (show b.length ≤ i by omega)]
    rfl
   rw [hd]
   exact Fin.tmp' rfl rfl

def q5u : List Int → List Int → Int
 | [], [] => 0
 | [], _ :: _ => -1
 | _ :: _, [] => 1
 | x :: l, y :: m => if x < y then -1 else if y < x then 1 else q5u l m
theorem qfq : ∀ l m : List Int, q5u l m = -1 ∨ q5u l m = 0 ∨ q5u l m = 1
 | [], [] => .inr (.inl rfl)
 | [], _ :: _ => .inl rfl
 | _ :: _, [] => .inr (.inr rfl)
 | x :: l, y :: m => by
  unfold q5u
  split
  ·exact .inl rfl
  ·split
   ·exact .inr (.inr rfl)
   ·exact qfq l m
theorem qhj : ∀ l m : List Int, q5u m l = - q5u l m
 | [], [] => rfl
 | [], _ :: _ => rfl
 | _ :: _, [] => rfl
 | x :: l, y :: m => by
  have ih := qhj l m
  unfold q5u
  by_cases h1 : x < y
  ·rw [if_neg (show ¬ y < x by omega), if_pos h1, if_pos h1]; rfl
  ·by_cases h2 : y < x
   ·rw [if_pos h2, if_neg h1, if_pos h2]
   ·rw [if_neg h1, if_neg h2, if_neg h2, if_neg h1, ih]
theorem qdw : ∀ l : List Int, q5u l l = 0
 | [] => rfl
 | x :: l => by unfold q5u; rw [if_neg (by omega), if_neg (by omega), qdw l]
theorem qr3 : ∀ {l m : List Int}, q5u l m = 0 → l = m
 | [], [], _ => rfl
 | [], _ :: _, h => by simp [q5u] at h
 | _ :: _, [], h => by simp [q5u] at h
 | x :: l, y :: m, h => by
  unfold q5u at h
  by_cases h1 : x < y
  ·rw [if_pos h1] at h; simp at h
  ·by_cases h2 : y < x
   ·rw [if_neg h1, if_pos h2] at h; simp at h
   ·rw [if_neg h1, if_neg h2] at h
    rw [qr3 h, show x = y by omega]
theorem qaz : ∀ {l m k : List Int}, q5u l m ≤ 0 → q5u m k ≤ 0 → q5u l k ≤ 0
 | [], _, [], _, _ => by simp [q5u]
 | [], _, _ :: _, _, _ => by simp [q5u]
 | _ :: _, [], _, h, _ => by simp [q5u] at h
 | _ :: _, _ :: _, [], _, h => by simp [q5u] at h
 | x :: l, y :: m, z :: k, h, h' => by
  unfold q5u at h h' ⊢
  by_cases a1 : x < y
  ·by_cases b1 : y < z
   ·rw [if_pos (by omega)]; omega
   ·by_cases b2 : z < y
    ·rw [if_neg b1, if_pos b2] at h'; omega
    ·rw [if_pos (by omega)]; omega
  ·by_cases a2 : y < x
   ·rw [if_neg a1, if_pos a2] at h; omega
   ·rw [if_neg a1, if_neg a2] at h
    by_cases b1 : y < z
    ·rw [if_pos (by omega)]; omega
    ·by_cases b2 : z < y
     ·rw [if_neg b1, if_pos b2] at h'; omega
     ·rw [if_neg b1, if_neg b2] at h'
      rw [if_neg (by omega), if_neg (by omega)]
      exact qaz h h'
theorem qhk : ∀ (l : List Int) (c d : List Int), q5u (l ++ c) (l ++ d) = q5u c d
 | [], _, _ => rfl
 | x :: l, c, d => by
  show (if x < x then (-1 : Int) else if x < x then 1 else q5u (l ++ c) (l ++ d)) = _
  rw [if_neg (by omega), if_neg (by omega), qhk l]
theorem qr4 : ∀ (l m : List Int) (i : Nat) (x y : Int) (c d : List Int), l[i]? = some x → m[i]? = some y → (∀ j, j < i → l[j]? = m[j]?) → x ≠ y → q5u (l ++ c) (m ++ d) = q7n x y
 | [], _, _, _, _, _, _, h, _, _, _ => by simp at h
 | _ :: _, [], _, _, _, _, _, _, h, _, _ => by simp at h
 | a :: l, b :: m, 0, x, y, c, d, h1, h2, _, hn => by
  simp at h1 h2
  subst h1; subst h2
  show q5u (a :: (l ++ c)) (b :: (m ++ d)) = _
  unfold q5u q7n
  by_cases e1 : a < b
  ·rw [if_pos e1, if_pos e1]
  ·rw [if_neg e1, if_neg e1, if_pos (by omega), if_pos (by omega)]
 | a :: l, b :: m, i + 1, x, y, c, d, h1, h2, hj, hn => by
  have e := hj 0 (by omega)
  simp at e
  subst e
  show q5u (a :: (l ++ c)) (a :: (m ++ d)) = _
  unfold q5u
  rw [if_neg (by omega), if_neg (by omega)]
  refine qr4 l m i x y c d (by simpa using h1) (by simpa using h2) (fun j hjl => ?_) hn
  have := hj (j + 1) (by omega)
  simpa using this
def qf7 : List Sn → List Int
 | [] => []
 | s :: l => s.1 :: s.2.1 :: s.2.2 :: qf7 l
theorem qp7 : ∀ {l m : List Sn}, qf7 l = qf7 m → l = m
 | [], [], _ => rfl
 | [], _ :: _, h => by simp [qf7] at h
 | _ :: _, [], h => by simp [qf7] at h
 | x :: l, y :: m, h => by
  simp only [qf7, List.cons.injEq] at h
  rw [qp7 h.2.2.2, show x = y from Prod.ext h.1 (Prod.ext h.2.1 h.2.2.1)]
theorem qen : ∀ l m : List Sn, q5u (qf7 l) (qf7 m) = qil l m
 | [], [] => rfl
 | [], _ :: _ => rfl
 | _ :: _, [] => rfl
 | x :: l, y :: m => by
  have ih := qen l m
  simp only [qf7, q5u, qil, cmpS, orI, q7n, ih]
  by_cases a1 : x.1 < y.1
  ·simp [a1]
  ·by_cases a2 : y.1 < x.1
   ·simp [a1, a2]
   ·by_cases b1 : x.2.1 < y.2.1
    ·simp [a1, a2, b1]
    ·by_cases b2 : y.2.1 < x.2.1
     ·simp [a1, a2, b1, b2]
     ·by_cases c1 : x.2.2 < y.2.2
      ·simp [a1, a2, b1, b2, c1]
      ·by_cases c2 : y.2.2 < x.2.2
       ·simp [a1, a2, b1, b2, c1, c2]
       ·simp [a1, a2, b1, b2, c1, c2]
def vv (p : Pst) (r : Nat) : Int := if r < p.vec.length then q1o p.vec r else 0
def qit (p : Pst) : List Int := (List.range 16).map (vv p)
def qfs (p : Pst) : List Int := qit p ++ qf7 p.cloud
def cmpP (p q : Pst) : Int := q5u (qfs (q1a p)) (qfs (q1a q))
theorem q4i (p : Pst) {r : Nat} (hr : r < 16) : (qit p)[r]? = some (vv p r) := by
 unfold qit
 rw [List.getElem?_map, List.getElem?_range hr]
 rfl
theorem qc1 (p : Pst) : (qit p).length = 16 := by simp [qit]
theorem keyP_inj {p q : Pst} (hp : CanP p) (hq : CanP q) (h : qfs p = qfs q) : p = q := by
 have h1 : qit p = qit q := by
  have := congrArg (List.take 16) h
  unfold qfs at this
  rwa [List.take_left' (qc1 p), List.take_left' (qc1 q)] at this
 have h2 : p.cloud = q.cloud := by
  have := congrArg (List.drop 16) h
  unfold qfs at this
  rw [List.drop_left' (qc1 p), List.drop_left' (qc1 q)] at this
  exact qp7 this
 refine hp.ext hq fun r hr n => ?_
 have e : vv p r = vv q r := by
  have a := q4i p hr
  rw [h1, q4i q hr] at a
  exact (Option.some.inj a).symm
 have k : ∀ z : Pst, 1 ≤ n → ((r < z.vec.length ∧ n ≤ q1o z.vec r) ↔ n ≤ vv z r) := fun z hn => by
  unfold vv
  by_cases hz : r < z.vec.length
  ·rw [if_pos hz]; exact ⟨fun h => h.2, fun h => ⟨hz, h⟩⟩
  ·rw [if_neg hz]; exact ⟨fun h => absurd h.1 hz, fun h => by omega⟩
 unfold inP
 rw [h2]
 constructor
 ·rintro ⟨a, b, c, d⟩
  refine ⟨a, b, c, d.imp (fun d => ?_) id⟩
  rw [k q b, ← e, ← k p b]; exact d
 ·rintro ⟨a, b, c, d⟩
  refine ⟨a, b, c, d.imp (fun d => ?_) id⟩
  rw [k p b, e, ← k q b]; exact d
theorem qpp {p q : Pst} : cmpP p q = 0 ↔ q1a p = q1a q := by
 constructor
 ·intro h
  exact keyP_inj (qam p) (qam q) (qr3 h)
 ·intro h
  unfold cmpP
  rw [h, qdw]

def qwb : List SOp := [⟨some 2,.assign (.const (.bool false)),none⟩]
instance : Live qwb := ⟨[0]⟩
def qwa : List SOp := [⟨some 3,.move (.tmp 0),none⟩,⟨some 4,.binOp .leq 5 (.const (.int .u8 65)) (.tmp 3) 5,none⟩,⟨some 5,.move (.tmp 4),none⟩,⟨some 6,.move (.tmp 0),some ((some 5),true)⟩,⟨some 7,.binOp .leq 5 (.tmp 6) (.const (.int .u8 90)) 5,some ((some 5),true)⟩,⟨some 8,.pick (.tmp 5) (.tmp 7) (.const (.bool false)),none⟩,⟨some 2,.assign (.tmp 8),none⟩]
instance : Live qwa := ⟨[0]⟩
def t_k170 : SC :=
 (.seq (.ops false qwb) (.seq (.ops false qwa) .ret))
theorem it_k170 : FnIs Tryz.prog 170 9 [.tmp 2] t_k170 := ⟨Tryz.f170, _, Tryz.func170, rfl, rfl, rfl, rfl, by kernel_rfl⟩

def qw9 : List SOp := [⟨some 2,.assign (.const (.bool false)),none⟩]
instance : Live qw9 := ⟨[0]⟩
def qw8 : List SOp := [⟨some 3,.move (.tmp 0),none⟩,⟨some 4,.binOp .leq 5 (.const (.int .u8 48)) (.tmp 3) 5,none⟩,⟨some 5,.move (.tmp 4),none⟩,⟨some 6,.move (.tmp 0),some ((some 5),true)⟩,⟨some 7,.binOp .leq 5 (.tmp 6) (.const (.int .u8 57)) 5,some ((some 5),true)⟩,⟨some 8,.pick (.tmp 5) (.tmp 7) (.const (.bool false)),none⟩,⟨some 2,.assign (.tmp 8),none⟩]
instance : Live qw8 := ⟨[0]⟩
def t_k171 : SC :=
 (.seq (.ops false qw9) (.seq (.ops false qw8) .ret))
theorem it_k171 : FnIs Tryz.prog 171 9 [.tmp 2] t_k171 := ⟨Tryz.f171, _, Tryz.func171, rfl, rfl, rfl, rfl, by kernel_rfl⟩

def qw7 : List SOp := [⟨some 2,.assign (.const (.bool false)),none⟩]
instance : Live qw7 := ⟨[0]⟩
def qw6 : List SOp := [⟨some 3,.move (.tmp 0),none⟩,⟨some 4,.binOp .eql 5 (.tmp 3) (.const (.int .u8 45)) 5,none⟩,⟨some 5,.move (.tmp 4),none⟩,⟨some 6,.move (.tmp 0),some ((some 5),false)⟩,⟨some 7,.binOp .eql 5 (.tmp 6) (.const (.int .u8 46)) 5,some ((some 5),false)⟩,⟨some 8,.pick (.tmp 5) (.const (.bool true)) (.tmp 7),none⟩,⟨some 2,.assign (.tmp 8),none⟩]
instance : Live qw6 := ⟨[0]⟩
def t_k172 : SC :=
 (.seq (.ops false qw7) (.seq (.ops false qw6) .ret))
theorem it_k172 : FnIs Tryz.prog 172 9 [.tmp 2] t_k172 := ⟨Tryz.f172, _, Tryz.func172, rfl, rfl, rfl, rfl, by kernel_rfl⟩

def qyq : List SOp := [⟨some 2,.assign (.const (.int .i64 0)),none⟩,⟨some 3,.assign (.const (.int .i64 0)),none⟩]
instance : Live qyq := ⟨[0]⟩
def qyp : List SOp := [⟨some 6,.move (.tmp 0),none⟩,⟨some 7,.binOp .eql 9 (.tmp 6) (.const (.string ⟨#[]⟩)) 9,none⟩]
instance : Live qyp := ⟨[0]⟩
def qyo : List SOp := [⟨some 2,.assign (.const (.int .i64 0)),none⟩,⟨some 3,.assign (.const (.int .i64 20)),none⟩]
instance : Live qyo := ⟨[]⟩
def qyn : List SOp := [⟨some 8,.move (.tmp 0),none⟩,⟨some 9,.call ⟨.builtin .len,#[.tmp 8],#[9]⟩,none⟩,⟨some 10,.binOp .gtr 3 (.tmp 9) (.const (.int .i64 24)) 3,none⟩]
instance : Live qyn := ⟨[0]⟩
def qym : List SOp := [⟨some 2,.assign (.const (.int .i64 0)),none⟩,⟨some 3,.assign (.const (.int .i64 21)),none⟩]
instance : Live qym := ⟨[]⟩
def qyl : List SOp := [⟨some 11,.move (.tmp 0),none⟩,⟨some 12,.call ⟨.builtin .len,#[.tmp 11],#[9]⟩,none⟩,⟨some 13,.move (.const (.int .i64 0)),none⟩]
instance : Live qyl := ⟨[0]⟩
def qyk : List SOp := [⟨some 14,.binOp .lss 3 (.tmp 13) (.tmp 12) 3,none⟩]
instance : Live qyk := ⟨[0,12,13]⟩
def qyj : List SOp := [⟨some 15,.move (.tmp 13),none⟩,⟨some 4,.assign (.tmp 15),none⟩]
instance : Live qyj := ⟨[0,12,13]⟩
def qyi : List SOp := [⟨some 16,.move (.tmp 0),none⟩,⟨some 17,.move (.tmp 4),none⟩,⟨some 18,.index 9 (.tmp 16) (.tmp 17),none⟩,⟨some 5,.assign (.tmp 18),none⟩]
instance : Live qyi := ⟨[0,4,12,13]⟩
def qlu : List SOp := [⟨some 19,.move (.tmp 5),none⟩,⟨some 20,.call ⟨.value (.func 170),#[.tmp 19],#[5]⟩,none⟩,⟨some 21,.move (.tmp 20),none⟩,⟨some 22,.move (.tmp 5),some ((some 21),false)⟩,⟨some 23,.call ⟨.value (.func 171),#[.tmp 22],#[5]⟩,some ((some 21),false)⟩,⟨some 24,.pick (.tmp 21) (.const (.bool true)) (.tmp 23),none⟩]
instance : Live qlu := ⟨[0,4,5,12,13]⟩
def qlt : List SOp := [⟨some 25,.move (.tmp 5),none⟩,⟨some 26,.call ⟨.value (.func 172),#[.tmp 25],#[5]⟩,none⟩,⟨some 27,.unOp .not 4 (.tmp 26),none⟩,⟨some 28,.move (.tmp 27),none⟩,⟨some 29,.move (.tmp 4),some ((some 28),false)⟩,⟨some 30,.binOp .eql 3 (.tmp 29) (.const (.int .i64 0)) 3,some ((some 28),false)⟩,⟨some 31,.pick (.tmp 28) (.const (.bool true)) (.tmp 30),none⟩,⟨some 32,.move (.tmp 31),none⟩,⟨some 33,.move (.tmp 4),some ((some 32),false)⟩,⟨some 34,.move (.tmp 0),some ((some 32),false)⟩,⟨some 35,.call ⟨.builtin .len,#[.tmp 34],#[9]⟩,some ((some 32),false)⟩,⟨some 36,.binOp .sub 3 (.tmp 35) (.const (.int .i64 1)) 3,some ((some 32),false)⟩,⟨some 37,.binOp .eql 3 (.tmp 33) (.tmp 36) 3,some ((some 32),false)⟩,⟨some 38,.pick (.tmp 32) (.const (.bool true)) (.tmp 37),none⟩,⟨some 39,.move (.tmp 38),none⟩,⟨some 40,.move (.tmp 0),some ((some 39),false)⟩,⟨some 41,.move (.tmp 4),some ((some 39),false)⟩,⟨some 42,.binOp .sub 3 (.tmp 41) (.const (.int .i64 1)) 3,some ((some 39),false)⟩,⟨some 43,.index 9 (.tmp 40) (.tmp 42),some ((some 39),false)⟩,⟨some 44,.call ⟨.value (.func 172),#[.tmp 43],#[5]⟩,some ((some 39),false)⟩,⟨some 45,.pick (.tmp 39) (.const (.bool true)) (.tmp 44),none⟩]
instance : Live qlt := ⟨[0,4,5,12,13]⟩
def qls : List SOp := [⟨some 46,.move (.tmp 4),none⟩,⟨some 2,.assign (.tmp 46),none⟩,⟨some 3,.assign (.const (.int .i64 22)),none⟩]
instance : Live qls := ⟨[4]⟩
def qlr : List SOp := [⟨some 47,.binOp .add 3 (.tmp 13) (.const (.int .i64 1)) 3,none⟩,⟨some 13,.move (.tmp 47),none⟩]
instance : Live qlr := ⟨[0,12,13]⟩
def qlq : List SOp := [⟨some 2,.assign (.const (.int .i64 0)),none⟩,⟨some 3,.assign (.const (.int .i64 0)),none⟩]
instance : Live qlq := ⟨[]⟩
def qj9 : SC :=
 (.seq (.ops false qyk) (.seq (.cond (.tmp 14) .skip (.exit 0)) (.seq (.block 1 (.seq (.ops false qyj) (.seq (.ops false qyi) (.seq (.seq (.ops false qlu) (.cond (.tmp 24) (.exit 1) .skip)) (.seq (.ops false qlt) (.cond (.tmp 45) (.seq (.ops false qls) .ret) .skip)))))) (.ops false qlr))))
def t_k158 : SC :=
 (.seq (.ops false qyq) (.seq (.seq (.ops false qyp) (.cond (.tmp 7) (.seq (.ops false qyo) .ret) .skip)) (.seq (.seq (.ops false qyn) (.cond (.tmp 10) (.seq (.ops false qym) .ret) .skip)) (.seq (.seq (.ops false qyl) (.block 0 (.loop qj9))) (.seq (.ops false qlq) .ret)))))
theorem it_k158 : FnIs Tryz.prog 158 48 [.tmp 2, .tmp 3] t_k158 := ⟨Tryz.f158, _, Tryz.func158, rfl, rfl, rfl, rfl, by kernel_rfl⟩

def z1j : List SOp := [⟨some 2,.assign (.const (.bool false)),none⟩]
instance : Live z1j := ⟨[0]⟩
def z1i : List SOp := [⟨some 6,.move (.tmp 0),none⟩,⟨some 7,.call ⟨.value (.func 158),#[.tmp 6],#[9]⟩,none⟩,⟨some 5,.move (.tmp 7),none⟩,⟨some 8,.extract (.tmp 5) 0,none⟩,⟨some 9,.extract (.tmp 5) 1,none⟩,⟨some 3,.assign (.tmp 8),none⟩,⟨some 4,.assign (.tmp 9),none⟩]
instance : Live z1i := ⟨[0]⟩
def z1h : List SOp := [⟨some 10,.move (.tmp 4),none⟩,⟨some 11,.binOp .eql 32 (.tmp 10) (.const (.int .i64 0)) 32,none⟩,⟨some 2,.assign (.tmp 11),none⟩]
instance : Live z1h := ⟨[4]⟩
def t_k137 : SC :=
 (.seq (.ops false z1j) (.seq (.ops false z1i) (.seq (.ops false z1h) .ret)))
theorem it_k137 : FnIs Tryz.prog 137 12 [.tmp 2] t_k137 := ⟨Tryz.f137, _, Tryz.func137, rfl, rfl, rfl, rfl, by kernel_rfl⟩

def qv3 : List SOp := [⟨some 2,.assign (.const (.bool false)),none⟩]
instance : Live qv3 := ⟨[0]⟩
def qv2 : List SOp := [⟨some 3,.move (.tmp 0),none⟩,⟨some 4,.binOp .geq 5 (.tmp 3) (.const (.int .u8 65)) 5,none⟩,⟨some 5,.move (.tmp 4),none⟩,⟨some 6,.move (.tmp 0),some ((some 5),true)⟩,⟨some 7,.binOp .leq 5 (.tmp 6) (.const (.int .u8 90)) 5,some ((some 5),true)⟩,⟨some 8,.pick (.tmp 5) (.tmp 7) (.const (.bool false)),none⟩,⟨some 2,.assign (.tmp 8),none⟩]
instance : Live qv2 := ⟨[0]⟩
def t_k193 : SC :=
 (.seq (.ops false qv3) (.seq (.ops false qv2) .ret))
theorem it_k193 : FnIs Tryz.prog 193 9 [.tmp 2] t_k193 := ⟨Tryz.f193, _, Tryz.func193, rfl, rfl, rfl, rfl, by kernel_rfl⟩

def qv1 : List SOp := [⟨some 2,.assign (.const (.bool false)),none⟩]
instance : Live qv1 := ⟨[0]⟩
def qv0 : List SOp := [⟨some 3,.move (.tmp 0),none⟩,⟨some 4,.binOp .geq 5 (.tmp 3) (.const (.int .u8 48)) 5,none⟩,⟨some 5,.move (.tmp 4),none⟩,⟨some 6,.move (.tmp 0),some ((some 5),true)⟩,⟨some 7,.binOp .leq 5 (.tmp 6) (.const (.int .u8 57)) 5,some ((some 5),true)⟩,⟨some 8,.pick (.tmp 5) (.tmp 7) (.const (.bool false)),none⟩,⟨some 2,.assign (.tmp 8),none⟩]
instance : Live qv0 := ⟨[0]⟩
def t_k194 : SC :=
 (.seq (.ops false qv1) (.seq (.ops false qv0) .ret))
theorem it_k194 : FnIs Tryz.prog 194 9 [.tmp 2] t_k194 := ⟨Tryz.f194, _, Tryz.func194, rfl, rfl, rfl, rfl, by kernel_rfl⟩

def quz : List SOp := [⟨some 2,.assign (.const (.bool false)),none⟩]
instance : Live quz := ⟨[0]⟩
def quy : List SOp := [⟨some 3,.move (.tmp 0),none⟩,⟨some 4,.binOp .eql 5 (.tmp 3) (.const (.int .u8 45)) 5,none⟩,⟨some 5,.move (.tmp 4),none⟩,⟨some 6,.move (.tmp 0),some ((some 5),false)⟩,⟨some 7,.binOp .eql 5 (.tmp 6) (.const (.int .u8 46)) 5,some ((some 5),false)⟩,⟨some 8,.pick (.tmp 5) (.const (.bool true)) (.tmp 7),none⟩,⟨some 2,.assign (.tmp 8),none⟩]
instance : Live quy := ⟨[0]⟩
def t_k195 : SC :=
 (.seq (.ops false quz) (.seq (.ops false quy) .ret))
theorem it_k195 : FnIs Tryz.prog 195 9 [.tmp 2] t_k195 := ⟨Tryz.f195, _, Tryz.func195, rfl, rfl, rfl, rfl, by kernel_rfl⟩

def qvq : List SOp := [⟨some 4,.assign (.const (.bool false)),none⟩]
instance : Live qvq := ⟨[0,1]⟩
def qvp : List SOp := [⟨some 6,.move (.tmp 0),none⟩,⟨some 7,.move (.tmp 1),none⟩,⟨some 8,.index 9 (.tmp 6) (.tmp 7),none⟩,⟨some 5,.assign (.tmp 8),none⟩]
instance : Live qvp := ⟨[0,1]⟩
def qvo : List SOp := [⟨some 9,.move (.tmp 5),none⟩,⟨some 10,.call ⟨.value (.func 193),#[.tmp 9],#[5]⟩,none⟩,⟨some 11,.move (.tmp 10),none⟩,⟨some 12,.move (.tmp 5),some ((some 11),false)⟩,⟨some 13,.call ⟨.value (.func 194),#[.tmp 12],#[5]⟩,some ((some 11),false)⟩,⟨some 14,.pick (.tmp 11) (.const (.bool true)) (.tmp 13),none⟩]
instance : Live qvo := ⟨[0,1,5]⟩
def qvn : List SOp := [⟨some 4,.assign (.const (.bool true)),none⟩]
instance : Live qvn := ⟨[]⟩
def qvm : List SOp := [⟨some 15,.move (.tmp 5),none⟩,⟨some 16,.call ⟨.value (.func 195),#[.tmp 15],#[5]⟩,none⟩,⟨some 17,.unOp .not 4 (.tmp 16),none⟩]
instance : Live qvm := ⟨[0,1,5]⟩
def qvl : List SOp := [⟨some 4,.assign (.const (.bool false)),none⟩]
instance : Live qvl := ⟨[]⟩
def qvk : List SOp := [⟨some 18,.move (.tmp 1),none⟩,⟨some 19,.binOp .eql 3 (.tmp 18) (.const (.int .i64 0)) 3,none⟩,⟨some 20,.move (.tmp 19),none⟩,⟨some 21,.move (.tmp 1),some ((some 20),false)⟩,⟨some 22,.move (.tmp 0),some ((some 20),false)⟩,⟨some 23,.call ⟨.builtin .len,#[.tmp 22],#[9]⟩,some ((some 20),false)⟩,⟨some 24,.binOp .sub 3 (.tmp 23) (.const (.int .i64 1)) 3,some ((some 20),false)⟩,⟨some 25,.binOp .eql 3 (.tmp 21) (.tmp 24) 3,some ((some 20),false)⟩,⟨some 26,.pick (.tmp 20) (.const (.bool true)) (.tmp 25),none⟩]
instance : Live qvk := ⟨[0,1]⟩
def qvj : List SOp := [⟨some 4,.assign (.const (.bool false)),none⟩]
instance : Live qvj := ⟨[]⟩
def qvi : List SOp := [⟨some 27,.move (.tmp 0),none⟩,⟨some 28,.move (.tmp 1),none⟩,⟨some 29,.binOp .sub 3 (.tmp 28) (.const (.int .i64 1)) 3,none⟩,⟨some 30,.index 9 (.tmp 27) (.tmp 29),none⟩,⟨some 31,.call ⟨.value (.func 195),#[.tmp 30],#[5]⟩,none⟩,⟨some 32,.unOp .not 4 (.tmp 31),none⟩,⟨some 4,.assign (.tmp 32),none⟩]
instance : Live qvi := ⟨[0,1]⟩
def t_k184 : SC :=
 (.seq (.ops false qvq) (.seq (.ops false qvp) (.seq (.seq (.ops false qvo) (.cond (.tmp 14) (.seq (.ops false qvn) .ret) .skip)) (.seq (.seq (.ops false qvm) (.cond (.tmp 17) (.seq (.ops false qvl) .ret) .skip)) (.seq (.seq (.ops false qvk) (.cond (.tmp 26) (.seq (.ops false qvj) .ret) .skip)) (.seq (.ops false qvi) .ret))))))
theorem it_k184 : FnIs Tryz.prog 184 33 [.tmp 4] t_k184 := ⟨Tryz.f184, _, Tryz.func184, rfl, rfl, rfl, rfl, by kernel_rfl⟩

end Go.Proofs.YthejoeiecenjkaaGreat.Avm
