/- Part 3 of the proof: lemmas. -/
import Derived.Test.YthejoeiecenjkaaGreatV2
import Derived.Test.YthejoeiecenjkaaGreatProg
import Derived.KernelRfl
import Derived.Shelf.SlSortCmp.NoneTotal
set_option maxRecDepth 100000
set_option maxHeartbeats 4000000
set_option linter.unusedVariables false
set_option linter.unusedSimpArgs false
set_option linter.unusedSectionVars false
set_option linter.defProp false
namespace Go.Proofs.YthejoeiecenjkaaGreat.Avm
open Go.Proofs
section
open Go.Proofs Go.Shelf Go.RowKit Go.Lib Go.Sort
def qdb : Go.Shelf.Ren := ⟨fun | 6 => 185 | 15 => 164 | 14 => 196 | 28 => 182 | 29 => 183 | 20 => 198 | 21 => 199 | 22 => 200 | 23 => 201 | 24 => 202 | 25 => 203 | 26 => 204 | 27 => 205 | 46 => 206 | 47 => 189 | 48 => 190 | 49 => 207 | 50 => 208 | 57 => 209 | n => n, fun | 22 => 149 | 24 => 179 | 25 => 225 | 3 => 3 | 39 => 204 | 0 => 0 | 53 => 220 | 55 => 79 | 4 => 4 | 46 => 213 | 45 => 212 | 50 => 217 | 5 => 5 | 9 => 9 | 66 => 227 | 70 => 231 | 76 => 234 | 77 => 205 | n => n, fun | n => n⟩
theorem qql : Go.Proofs.SlLaysF0.n6 Tryz.prog qdb where
 mixed := by kernel_rfl
 f6 := ⟨Tryz.f185.name, by decide, Tryz.func185.trans (congrArg some (by kernel_rfl))⟩
 f14 := ⟨Tryz.f196.name, by decide, Tryz.func196.trans (congrArg some (by kernel_rfl))⟩
 f15 := Tryz.func164.trans (congrArg some (by kernel_rfl))
 f20 := ⟨Tryz.f198.name, by decide, Tryz.func198.trans (congrArg some (by kernel_rfl))⟩
 f21 := ⟨Tryz.f199.name, by decide, Tryz.func199.trans (congrArg some (by kernel_rfl))⟩
 f22 := ⟨Tryz.f200.name, by decide, Tryz.func200.trans (congrArg some (by kernel_rfl))⟩
 f23 := ⟨Tryz.f201.name, by decide, Tryz.func201.trans (congrArg some (by kernel_rfl))⟩
 f24 := ⟨Tryz.f202.name, by decide, Tryz.func202.trans (congrArg some (by kernel_rfl))⟩
 f25 := ⟨Tryz.f203.name, by decide, Tryz.func203.trans (congrArg some (by kernel_rfl))⟩
 f26 := ⟨Tryz.f204.name, by decide, Tryz.func204.trans (congrArg some (by kernel_rfl))⟩
 f27 := ⟨Tryz.f205.name, by decide, Tryz.func205.trans (congrArg some (by kernel_rfl))⟩
 f28 := Tryz.func182.trans (congrArg some (by kernel_rfl))
 f29 := Tryz.func183.trans (congrArg some (by kernel_rfl))
 f46 := ⟨Tryz.f206.name, by decide, Tryz.func206.trans (congrArg some (by kernel_rfl))⟩
 f47 := Tryz.func189.trans (congrArg some (by kernel_rfl))
 f48 := Tryz.func190.trans (congrArg some (by kernel_rfl))
 f49 := ⟨Tryz.f207.name, by decide, Tryz.func207.trans (congrArg some (by kernel_rfl))⟩
 f50 := ⟨Tryz.f208.name, by decide, Tryz.func208.trans (congrArg some (by kernel_rfl))⟩
 f57 := ⟨Tryz.f209.name, by decide, Tryz.func209.trans (congrArg some (by kernel_rfl))⟩
 t0 := Tryz.underlying0
 a0 := Tryz.isAgg0
 z0 := Tryz.sizeOf0
 v0 := Tryz.zeroValue0
 t3 := Tryz.underlying3
 a3 := Tryz.isAgg3
 z3 := Tryz.sizeOf3
 v3 := Tryz.zeroValue3
 t4 := Tryz.underlying4
 a4 := Tryz.isAgg4
 z4 := Tryz.sizeOf4
 v4 := Tryz.zeroValue4
 t5 := Tryz.underlying5
 a5 := Tryz.isAgg5
 z5 := Tryz.sizeOf5
 v5 := Tryz.zeroValue5
 t9 := Tryz.underlying9
 a9 := Tryz.isAgg9
 z9 := Tryz.sizeOf9
 v9 := Tryz.zeroValue9
 t22 := Tryz.underlying149
 a22 := Tryz.isAgg149
 z22 := Tryz.sizeOf149
 v22 := Tryz.zeroValue149
 t25 := Tryz.underlying225
 a25 := Tryz.isAgg225
 z25 := Tryz.sizeOf225
 v25 := Tryz.zeroValue225
 t39 := Tryz.underlying204
 a39 := Tryz.isAgg204
 z39 := Tryz.sizeOf204
 v39 := Tryz.zeroValue204
 t45 := Tryz.underlying212
 a45 := Tryz.isAgg212
 z45 := Tryz.sizeOf212
 v45 := Tryz.zeroValue212
 t46 := Tryz.underlying213
 a46 := Tryz.isAgg213
 z46 := Tryz.sizeOf213
 v46 := Tryz.zeroValue213
 t50 := Tryz.underlying217
 a50 := Tryz.isAgg217
 z50 := Tryz.sizeOf217
 v50 := Tryz.zeroValue217
 t53 := Tryz.underlying220
 a53 := Tryz.isAgg220
 z53 := Tryz.sizeOf220
 v53 := Tryz.zeroValue220
 t55 := Tryz.underlying79
 a55 := Tryz.isAgg79
 z55 := Tryz.sizeOf79
 v55 := Tryz.zeroValue79
 t66 := Tryz.underlying227
 a66 := Tryz.isAgg227
 z66 := Tryz.sizeOf227
 v66 := Tryz.zeroValue227
 t70 := Tryz.underlying231
 a70 := Tryz.isAgg231
 z70 := Tryz.sizeOf231
 v70 := Tryz.zeroValue231
 t76 := Tryz.underlying234
 a76 := Tryz.isAgg234
 z76 := Tryz.sizeOf234
 v76 := Tryz.zeroValue234
 t77 := Tryz.underlying205
 a77 := Tryz.isAgg205
 z77 := Tryz.sizeOf205
 v77 := Tryz.zeroValue205
end
section
open Go.Proofs Go.Shelf Go.RowKit Go.Lib Go.Sort
abbrev RnOk := { r : Rn // okR r }
instance : Inhabited RnOk := ⟨⟨(1, 1), by unfold okR; decide⟩⟩
theorem FnIs.callable {P : Program} {f : FuncId} {n : Nat} {rs : List ResultVar} {sc : SC} (h : FnIs P f n rs sc) : Callable P f := by
 obtain ⟨fn, c, h1, h2, h3, _⟩ := h
 exact ⟨⟨fn, h1, h2, by simp [h3]⟩⟩
theorem qqv (l : List Rn) (hok : ∀ r ∈ l, okR r) (hl : l.length ≤ 1000000000) :
 ∃ s : List Rn, s.Perm l ∧ s.Pairwise leLo ∧ EvOwn (En Tryz.prog rfl).P 185 [.undef, .fn 186 []] 0 2 (q07 l) false (.tup []) (q07 s) := by
 have hlt : ∀ x y : RnOk, ltOf (fun x y : RnOk => x.1.1 - y.1.1) x y = decide (x.1.1 < y.1.1) := fun x y => by
  unfold ltOf
  simp only [decide_eq_decide]
  omega
 obtain ⟨s, h1, h2, h3⟩ := sortOwn (τ := RnOk) qql (FnIs.callable it_k185) 2 (by decide) Tryz.isAgg179 Tryz.sizeOf179 (fun x => [.int .i64 x.1.1, .int .i64 x.1.2]) (fun _ => rfl)
  (fun x y hy => by simp at hy; rcases hy with rfl | rfl <;> rfl) (fun x y => x.1.1 - y.1.1)
  ⟨fun x => by rw [hlt]; simp, fun x y z h1 h2 => by rw [hlt] at *; simp at *; omega, fun x y z h1 h2 => by rw [hlt] at *; simp at *; omega⟩
  186 (fun x y => ev_k186 x.1 y.1 (by have := x.2; unfold okR at this; omega) (by have := y.2; unfold okR at this; omega)) (l.attachWith okR hok) (by simp; omega)
 refine ⟨s.map (·.1), ?_, ?_, ?_⟩
 ·have := h1.map (·.1)
  have e0 : (l.attachWith okR hok).map (·.1) = l := List.ext_getElem (by simp) (by simp)
  rw [e0] at this
  exact this
 ·rw [List.pairwise_map]
  refine h2.imp fun {a b} h => ?_
  rw [hlt] at h
  simp at h
  exact h
 ·have e1 : (l.attachWith okR hok).map (fun x => AVal.agg [.int .i64 x.1.1, .int .i64 x.1.2]) = q07 l := by
   have : (l.attachWith okR hok).map (fun x => AVal.agg [.int .i64 x.1.1, .int .i64 x.1.2]) = ((l.attachWith okR hok).map (·.1)).map q4h := by rw [List.map_map]; rfl
   rw [this]
   simp [q07]
  have e2 : s.map (fun x => AVal.agg [.int .i64 x.1.1, .int .i64 x.1.2]) = q07 (s.map (·.1)) := by
   rw [q07, List.map_map]; rfl
  rw [e1, e2] at h3
  exact h3
theorem qou (r : Rn) : Ev (En Tryz.prog rfl).P 155 [q4h r] (.ret (.tup [.agg [.int .i64 (max r.1 1), .int .i64 (min r.2 1000000000)], .bool (decide (max r.1 1 ≤ min r.2 1000000000))])) := ev_k155 r
def q73 (ss : List (List Rn)) : List AVal := ss.map fun l => .sl 2 (q07 l)
theorem q5f (ss : List (List Rn)) : q0j (q73 ss) = true := q4e fun l => q06 l
theorem qr3 (ss : List (List Rn)) : (q73 ss).length = ss.length := by simp [q73]
theorem q6m (l : List Rn) (a b : Int) : q07 l ++ [.agg [.int .i64 a, .int .i64 b]] = q07 (l ++ [(a, b)]) := by simp [q07, q4h]
theorem qra {l : List Rn} {i : Nat} {r : Rn} (h : l[i]? = some r) : q0t (l.take (i + 1)) = q0t (l.take i) ++ q0t [r] := by
 rw [List.take_add_one, h, q63]
 rfl
theorem zl6 {r : Rn} (h : max r.1 1 ≤ min r.2 1000000000) : q0t [r] = [(max r.1 1, min r.2 1000000000)] := by rw [q8a, if_pos (show (q4t r).1 ≤ (q4t r).2 from h)]; rfl
theorem clips_no {r : Rn} (h : ¬ max r.1 1 ≤ min r.2 1000000000) : q0t [r] = [] := by rw [q8a, if_neg (show ¬ (q4t r).1 ≤ (q4t r).2 from h)]; rfl
theorem qor {α : Type} {ss : List (List α)} {i : Nat} {l : List α} (h : ss[i]? = some l) : (ss.take (i + 1)).flatten = (ss.take i).flatten ++ l := by
 rw [List.take_add_one, h]
 simp
theorem qrg {s : List Rn} (hs : s.Pairwise leLo) (hok : ∀ r ∈ s, okR r) (i : Nat) : Can ((s.take i).foldl qef []) :=
 (qas (out := []) (hs.sublist (List.take_sublist i s)) (fun r hr => hok r (List.mem_of_mem_take hr)) Can.nil (fun x hx => by cases hx)).1
theorem ev_k169 (ss : List (List Rn)) (hl : ss.length ≤ 900000000) (hw : ss.flatten.length ≤ 900000000) : Ev (En Tryz.prog rfl).P 169 [.sl 1 (q73 ss)] (.ret (.sl 2 (q07 (q13 ss.flatten)))) := by
 refine Ev.of_body it_k169 (by simp) (Run.start ?_)
 unfold t_k169
 have e0 := qr3 ss
 (have hF := @e0; refine q01 (k:=?_); clear hF)
 refine Run.wk (Wk.own_nil 3 34 2 rfl rfl) ?_
 refine Run.while (σ := Nat) (fun i => ⟨tms [(3, .os 34 (q0t (ss.take i).flatten).length), (13, .sl 1 (q73 ss)), (14, .int .i64 ss.length), (15, .int .i64 i)], mms [(34, .arr (q0t (ss.take i).flatten).length 2 (q07 (q0t (ss.take i).flatten)))]⟩)
  (fun i => i ≤ ss.length) (fun i => ss.length - i) 0 (have hW := @q5f; q0h) (Nat.zero_le _) ?_
 intro i hi
 unfold qii
 by_cases hlt : i < ss.length
 ·obtain ⟨row, hrow⟩ : ∃ row, ss[i]? = some row := ⟨ss[i], by simp [hlt]⟩
  have e1 : (q73 ss)[i]? = some (.sl 2 (q07 row)) := by simp [q73, hrow]
  have e2 := q0v row
  have hft := qor hrow
  have hrl : (ss.take (i + 1)).flatten.length ≤ ss.flatten.length := by
   have h := List.take_append_drop (i + 1) ss
   have h2 : ss.flatten = (ss.take (i + 1)).flatten ++ (ss.drop (i + 1)).flatten := by rw [← List.flatten_append, h]
   rw [h2]; simp
  have hrl2 : row.length ≤ ss.flatten.length := by rw [hft] at hrl; simp only [List.length_append] at hrl; omega
  generalize (ss.take i).flatten = acc at hft ⊢
  (have hF := (aI @e0 (aI @e1 @e2)); refine q01 (k:=?_); clear hF)
  refine Run.while (σ := Nat) (fun j => ⟨tms [(3, .os 34 (q0t (acc ++ row.take j)).length), (13, .sl 1 (q73 ss)), (14, .int .i64 ss.length), (15, .int .i64 i), (19, .sl 2 (q07 row)), (20, .int .i64 row.length), (21, .int .i64 j)], mms [(34, .arr (q0t (acc ++ row.take j)).length 2 (q07 (q0t (acc ++ row.take j))))]⟩)
   (fun j => j ≤ row.length) (fun j => row.length - j) 0 (have hW := @q5f; q0h) (Nat.zero_le _) ?_
  intro j hj
  unfold qih
  by_cases hjl : j < row.length
  ·obtain ⟨r, hr⟩ : ∃ r, row[j]? = some r := ⟨row[j], by simp [hjl]⟩
   have g1 : (q07 row)[j]? = some (.agg [.int .i64 r.1, .int .i64 r.2]) := q3a hr
   have hk : q0t (acc ++ row.take (j + 1)) = q0t (acc ++ row.take j) ++ q0t [r] := by rw [q63, qra hr, q63, List.append_assoc]
   have hb : (q0t (acc ++ row.take j)).length ≤ 900000000 := by
    have h1 := q9w (acc ++ row.take j)
    have h2 : (acc ++ row.take j).length ≤ (acc ++ row).length := by simp only [List.length_append, List.length_take]; omega
    rw [← hft] at h2
    omega
   have g2 := q0v (q0t (acc ++ row.take j))
   (have hF := (aI (aI @e0 @e1) (aI @e2 @g1)); refine q01 (k:=?_); clear hF)
   refine q00 [q4h r] (he := qou r) (k:=?_)
   (focus (have hF := (aI (aI @e0 (aI @e1 @e2)) (aI @g1 (aI @g2 @q6m))); (repeat' (first | refine go1 (k:=?_) | with_reducible refine Ny.of ?_ ?_ | (refine Hyp.of ?_; intro hc; (try simp only [hc]); (try simp only [Bh] at hc)))); all_goals clear hF))
   ·have hk2 := hk.trans (by rw [zl6 hc])
    (refine Fin.nextW (j + 1) ?_ (have hW := (aI @hk2 @q5f); q0h); (try dsimp only))
    omega
   ·have hk2 := hk.trans (by rw [clips_no hc, List.append_nil])
    (refine Fin.nextW (j + 1) ?_ (have hW := (aI @hk2 @q5f); q0h); (try dsimp only))
    omega
  ·have hje : acc ++ row.take j = (ss.take (i + 1)).flatten := by rw [hft, show j = row.length by omega, List.take_length]
   rw [hje]
   (have hF := (aI @e0 (aI @e1 @e2)); refine q01 (k:=?_); clear hF)
   (refine Fin.nextW (i + 1) ?_ (have hW := @q5f; q0h); (try dsimp only))
   omega
 ·have hie : (ss.take i).flatten = ss.flatten := by rw [show i = ss.length by omega, List.take_length]
  rw [hie]
  have hcl := q9w ss.flatten
  obtain ⟨s, hp, hs, hsort⟩ := qqv (q0t ss.flatten) q9v (by omega)
  have hres := z6v hs hp
  have hok : ∀ r ∈ s, okR r := fun r hr => q9v r (hp.mem_iff.1 hr)
  have hlen := hp.length_eq
  rw [← hres]
  generalize q0t ss.flatten = c at *
  (have hF := @e0; refine q01 (k:=?_); clear hF)
  refine z80 (args' := [.undef, .fn 186 []]) 0 34 rfl rfl rfl rfl rfl (q06 _) (q06 s) rfl hsort ?_
  have g0 := q0v s
  (have hF := (aI @e0 @g0); refine q01 (k:=?_); clear hF)
  refine Run.wk (Wk.own_nil 10 47 2 rfl rfl) ?_
  refine Run.while (σ := Nat) (fun i => ⟨tms [(10, .os 47 i), (39, .os 34 c.length), (40, .int .i64 s.length), (41, .int .i64 i)], mms [(34, .arr c.length 2 (q07 s)), (47, .arr i 2 (q07 ((s.take i).foldl qef [])))]⟩)
   (fun i => i ≤ s.length) (fun i => s.length - i) 0 (have hW := True.intro; q0h) (Nat.zero_le _) ?_
  clear hi hlt hie
  intro i hi
  unfold qig
  by_cases hlt : i < s.length
  ·obtain ⟨r, hr⟩ : ∃ r, s[i]? = some r := ⟨s[i], by simp [hlt]⟩
   have g1 : (q07 s)[i]? = some (.agg [.int .i64 r.1, .int .i64 r.2]) := q3a hr
   have hcan := qrg hs hok i
   have hle := qfx (s.take i) []
   have hnx := q32 qef [] s hr
   simp only [List.length_nil, List.length_take] at hle
   generalize (s.take i).foldl qef [] = out at hcan hle hnx ⊢
   (have hF := (aI @e0 (aI @g0 @g1)); refine q01 (k:=?_); clear hF)
   refine z82 (args' := [.undef, q4h r]) 0 47 rfl rfl rfl rfl rfl (q06 _) (q06 _) (ev_k187 out r (fun x hx => by have := hcan.2 x hx; unfold okR at this; omega) (by omega)) ?_
   (have hF := (aI @e0 (aI @g0 @g1)); refine q01 (k:=?_); clear hF)
   (refine Fin.nextW (i + 1) ?_ (have hW := @hnx; q0h); (try dsimp only))
   omega
  ·rw [show i = s.length by omega, List.take_length]
   (have hF := (aI @e0 @g0); refine q01 (k:=?_); clear hF)
   exact qg8 (.sl 2 (q07 (s.foldl qef [])))
theorem qdp (l : List Rn) (hl : l.length ≤ 900000000) : Ev (En Tryz.prog rfl).P 156 [.sl 2 (q07 l)] (.ret (.sl 2 (q07 (q13 l)))) := by
 refine z9f l (q13 l) ?_
 have h := ev_k169 [l] (by simp) (by simpa using hl)
 simpa [q73] using h
end
def z1e : List SOp := [zO 2 (.assign (.const (.int .i64 0))),zO 3 (.assign (.const (.slice none 0 0)))]
instance : Live z1e := ⟨[0]⟩
def z1d : List SOp := [zM 5 0,zO 6 (.call ⟨.value (.func 156),#[.tmp 5],#[149]⟩),zG 4 6]
instance : Live z1d := ⟨[0]⟩
def z1c : List SOp := [zM 7 4,zO 8 (.call ⟨.builtin .len,#[.tmp 7],#[149]⟩),zO 9 (.binOp .eql 3 (.tmp 8) (.const (.int .i64 0)) 3),zM 10 9,⟨some 11,.move (.tmp 4),some ((some 10),false)⟩,⟨some 12,.indexAddr 149 (.tmp 11) (.const (.int .i64 0)),some ((some 10),false)⟩,⟨some 13,.fieldAddr 179 (.tmp 12) 0,some ((some 10),false)⟩,⟨some 14,.load 3 (.tmp 13),some ((some 10),false)⟩,⟨some 15,.binOp .neq 3 (.tmp 14) (.const (.int .i64 1)) 3,some ((some 10),false)⟩,zO 16 (.pick (.tmp 10) (.const (.bool true)) (.tmp 15))]
instance : Live z1c := ⟨[4]⟩
def z1b : List SOp := [zM 17 4,zO 2 (.assign (.const (.int .i64 0))),zG 3 17]
instance : Live z1b := ⟨[4]⟩
def z1a : List SOp := [zM 18 4,zO 19 (.indexAddr 149 (.tmp 18) (.const (.int .i64 0))),zF 20 179 19 1,zL 21 3 20,zM 22 4,zO 23 (.slice 149 (.tmp 22) (some (.const (.int .i64 1))) none none),zO 24 (.call ⟨.value (.func 157),#[.tmp 23],#[149]⟩),zG 2 21,zG 3 24]
instance : Live z1a := ⟨[4]⟩
def t_k134 : SC :=
 (.seq (.ops false z1e) (.seq (.ops false z1d) (.seq (.seq (.ops false z1c) (.cond (.tmp 16) (.seq (.ops false z1b) .ret) .skip)) (.seq (.ops true z1a) .ret))))
theorem it_k134 : FnIs Tryz.prog 134 25 [.tmp 2, .tmp 3] t_k134 := ⟨Tryz.f134, _, Tryz.func134, rfl, rfl, rfl, rfl, by kernel_rfl⟩

def q1p : List Rn → Int × List Rn
 | [] => (0, [])
 | x :: r => if x.1 = 1 then (x.2, r) else (0, x :: r)
theorem qbm {x : Rn} {r : List Rn} (h : x.1 = 1) : q1p (x :: r) = (x.2, r) := if_pos h
theorem qbl {x : Rn} {r : List Rn} (h : ¬ x.1 = 1) : q1p (x :: r) = (0, x :: r) := if_neg h
theorem z9i (l m : List Rn) (hm : m.length ≤ 1000000000) (hN : Ev (En Tryz.prog rfl).P 156 [.sl 2 (q07 l)] (.ret (.sl 2 (q07 m)))) :
 Ev (En Tryz.prog rfl).P 134 [.sl 2 (q07 l)] (.ret (.tup [.int .i64 (q1p m).1, .sl 2 (q07 (q1p m).2)])) := by
 refine Ev.of_body it_k134 (by simp) (Run.start ?_)
 unfold t_k134
 (have hF := True.intro; refine q1j (k:=?_); clear hF)
 refine q2t (l := [.sl 2 (q07 l)]) rfl rfl (by simp [q0j, AVal.stb, q06]) hN ?_
 cases m with
 | nil =>
  have e0 : q07 [] = [] := rfl
  rw [e0]
  (have hF := True.intro; refine q1j (k:=?_); clear hF)
  exact Fin.two rfl rfl rfl rfl (.inl rfl) (.inl rfl)
 | cons x r =>
  have e0 : q07 (x :: r) = .agg [.int .i64 x.1, .int .i64 x.2] :: q07 r := rfl
  have e1 : (q07 r).length = r.length := q0v r
  have e2 : decide (((r.length + 1 : Nat) : Int) = 0) = false := by simp; omega
  have e3 : ((0 : Int) < ((r.length + 1 : Nat) : Int)) = True := by simp only [eq_iff_iff, iff_true]; omega
  by_cases c : x.1 = 1
  ·rw [qbm c, e0]
   have d : (!decide (x.1 = 1)) = false := by simpa using c
   (have hF := (aI (aI @e1 @e2) (aI @e3 @d)); refine q1j (k:=?_); clear hF)
   have e4 : (1 ≤ r.length + 1) = True := by simp
   have hcl := ev_k157 r (by simp at hm; omega)
   have e5 : ((1 : Int).toNat) = 1 := rfl
   have e6 : (AVal.agg [.int .i64 x.1, .int .i64 x.2] :: q07 r).take (r.length + 1) = AVal.agg [.int .i64 x.1, .int .i64 x.2] :: q07 r := List.take_of_length_le (by simp [e1])
   have e7 : (q07 r).take r.length = q07 r := List.take_of_length_le (by simp [e1])
   (have hF := (aI (aI (aI @e1 @e2) (aI @e3 @e4)) (aI (aI @e5 @e6) (aI @e7 @d))); refine q1j (k:=?_); clear hF)
   refine q2t (l := [.sl 2 (q07 r)]) rfl ?hl (by simp [q0j, AVal.stb, q06]) hcl ?k
   case hl =>
    show [AVal.sl 2 ((q07 r).take r.length)] = _
    rw [e7]
   (have hF := (aI (aI @e1 @e2) (aI @e3 @d)); refine q1j (k:=?_); clear hF)
   exact Fin.two rfl rfl rfl (q06 r) (.inl rfl) (.inl rfl)
  ·rw [qbl c, e0]
   have d : (!decide (x.1 = 1)) = true := by simpa using c
   (have hF := (aI (aI @e1 @e2) (aI @e3 @d)); refine q1j (k:=?_); clear hF)
   exact Fin.two rfl rfl rfl (q06 (x :: r)) (.inl rfl) (.inl rfl)

theorem q7y {v : List Int} {t : Tab} (i : Nat) : (List.range (i + 1)).foldl (q3l v) t = q3l v ((List.range i).foldl (q3l v) t) i := by
 rw [List.range_succ, List.foldl_append]
 rfl
theorem zip {Q : Ex → AS → Prop} {y : SC} {k : Kont} (A11 : AVal) (h11 : A11.stb = true) (n12 i13 : Int) (p : Pst) (hp : p.vec.length ≤ 1000000000) (t : Tab) {n0 : Nat} (ht : TabLe t n0) (hn : n0 + 16 ≤ 1000000000)
 (h : Run (En Tryz.prog rfl) 78 Q y k ⟨tms [(3, .ptr 10 0), (11, A11), (12, .int .i64 n12), (13, .int .i64 i13), (5, .ptr 5 0)], mms [(10, .cells (q4v (q5l p.vec t))), (5, .cells [.sl 1 (q05 p.vec), .sl 3 (q0d p.cloud)])]⟩) :
 Run (En Tryz.prog rfl) 78 Q (.loop qbg) (.block 2 (.seq y k)) ⟨tms [(3, .ptr 10 0), (11, A11), (12, .int .i64 n12), (13, .int .i64 i13), (5, .ptr 5 0), (20, .int .i64 (min p.vec.length 16)), (21, .int .i64 0)], mms [(10, .cells (q4v t)), (5, .cells [.sl 1 (q05 p.vec), .sl 3 (q0d p.cloud)])]⟩ := by
 refine Run.range (min p.vec.length 16) (fun i => ⟨tms [(3, .ptr 10 0), (11, A11), (12, .int .i64 n12), (13, .int .i64 i13), (5, .ptr 5 0), (20, .int .i64 (min p.vec.length 16)), (21, .int .i64 i)], mms [(10, .cells (q4v ((List.range i).foldl (q3l p.vec) t))), (5, .cells [.sl 1 (q05 p.vec), .sl 3 (q0d p.cloud)])]⟩) (Wk.refl _ _) (fun i hi => ?_) ?_
 ·obtain ⟨q1, q2⟩ := TabLe.range (v := p.vec) ht i
  rw [q7y]
  generalize (List.range i).foldl (q3l p.vec) t = u at q1 q2 ⊢
  have hiv : i < p.vec.length := by omega
  have hi16 : i < 16 := by omega
  have hiu : i < u.length := by rw [q1]; exact hi16
  have e1 : ((i : Int) < min (p.vec.length : Int) 16) = True := by simp only [eq_iff_iff, iff_true]; omega
  have e2 : (0 ≤ (i : Int)) = True := by simp
  have e3 : ((i : Int) < ((16 : Nat) : Int)) = True := by simp only [eq_iff_iff, iff_true]; omega
  have e4 : (q4v u)[i]? = some (.own 2 (q07 (u.getD i []))) := qhk hiu
  have e5 : ((q4v u).set i .hole)[i]? = some .hole := qdt hiu
  have e6 := qhl hiu (1, q1n p.vec i)
  simp only at e6
  have e7 : (q05 p.vec)[i]? = some (.int .i64 (q1n p.vec i)) := q0w (by simp [q1n, hiv])
  have e8 : (q05 p.vec).length = p.vec.length := q0f _
  have e9 : ((i : Int) < (p.vec.length : Int)) = True := by simp only [eq_iff_iff, iff_true]; omega
  have e10 : (q07 (u.getD i [])).length = (u.getD i []).length := q0v _
  have hq := q2 i
  have e11 : (((u.getD i []).length + 1) * 16 ≤ 70368744177664) = True := by simp only [eq_iff_iff, iff_true]; omega
  have e12 : ((u.getD i []).length + 1 ≤ 4611686018427387904) = True := by simp only [eq_iff_iff, iff_true]; omega
  have e13 : IntKind.i64.wrap ((i : Int) + 1) = ((i + 1 : Nat) : Int) := by rw [q3f (by omega)]; omega
  have e14 : (q4v u).length = 16 := by rw [qhj, q1]
  have e15 : (i + 1 ≤ 16) = True := by simp only [eq_iff_iff, iff_true]; omega
  unfold qbg
  (have hF := (aI @e1 @e2); refine q1j (k:=?_); clear hF)
  ((with_reducible apply toW); refine stW (fun j => j == 5) (k:=?_))
  (have hF := (aI (aI (aI (aI @e1 @e2) (aI @e3 @e4)) (aI (aI @e5 @e6) (aI @e7 @e8))) (aI (aI (aI @e9 @e10) (aI @e11 @e12)) (aI (aI @e13 @e14) (aI @e15 @List.length_set.{0})))); refine q1j (k:=?_); clear hF)
  refine Fin.next (Wk.toL _ _ ⟨rfl, rfl, rfl, rfl, rfl, rfl, rfl, trivial⟩ ⟨rfl, rfl, trivial⟩ ⟨rfl, q1d h11, rfl, rfl, rfl, rfl, rfl, trivial⟩ ⟨q2n _ _, ?_, trivial⟩)
  simp [ABlk.no, AVal.noC, AVal.no, AVal.stb, q02, q03]
 ·have e1 : (((min p.vec.length 16 : Nat) : Int) < min (p.vec.length : Int) 16) = False := by simp only [eq_iff_iff, iff_false]; omega
  unfold qbg
  (have hF := @e1; refine q1j (k:=?_); clear hF)
  exact Run.wk (Wk.keep [(3, .ptr 10 0), (11, A11), (12, .int .i64 n12), (13, .int .i64 i13), (5, .ptr 5 0)] ⟨rfl, rfl, rfl, rfl, rfl, trivial⟩) h

theorem z6r {t : Tab} {s : Sn} (h : 0 ≤ s.1 ∧ s.1 < 16) : putSn t s = q6q t s.1.toNat s.2 := if_pos h
theorem qct {t : Tab} {s : Sn} (h : ¬ (0 ≤ s.1 ∧ s.1 < 16)) : putSn t s = t := if_neg h
theorem zio {Q : Ex → AS → Prop} {k : Kont} (A11 : AVal) (h11 : A11.stb = true) (n12 i13 : Int) (cl : List Sn) (hp : cl.length ≤ 1000000000) (t : Tab) {n0 : Nat} (ht : TabLe t n0) (hn : n0 + cl.length ≤ 1000000000)
 (h : Fin (En Tryz.prog rfl) 78 Q k .normal ⟨upd (tms [(3, .ptr 10 0), (11, A11), (12, .int .i64 n12), (13, .int .i64 i13), (43, .sl 3 (q0d cl)), (44, .int .i64 cl.length), (45, .int .i64 cl.length)]) 46 (.bool false), mms [(10, .cells (q4v (q4k cl t)))]⟩) :
 Run (En Tryz.prog rfl) 78 Q (.loop qbf) (.block 4 k) ⟨tms [(3, .ptr 10 0), (11, A11), (12, .int .i64 n12), (13, .int .i64 i13), (43, .sl 3 (q0d cl)), (44, .int .i64 cl.length), (45, .int .i64 0)], mms [(10, .cells (q4v t))]⟩ := by
 refine Run.range cl.length (fun i => ⟨tms [(3, .ptr 10 0), (11, A11), (12, .int .i64 n12), (13, .int .i64 i13), (43, .sl 3 (q0d cl)), (44, .int .i64 cl.length), (45, .int .i64 i)], mms [(10, .cells (q4v ((cl.take i).foldl putSn t)))]⟩) (Wk.refl _ _) (fun i hi => ?_) ?_
 ·have hq0 := TabLe.cloud ht (cl.take i)
  obtain ⟨s, hs⟩ : ∃ s, cl[i]? = some s := ⟨cl[i], by simp [hi]⟩
  rw [q32 putSn t cl hs]
  generalize (cl.take i).foldl putSn t = u at hq0 ⊢
  obtain ⟨q1, q2⟩ := hq0
  have e1 : ((i : Int) < (cl.length : Int)) = True := by simp only [eq_iff_iff, iff_true]; omega
  have e2 : (0 ≤ (i : Int)) = True := by simp
  have e3 : (q0d cl)[i]? = some (.agg [.int .i64 s.1, .int .i64 s.2.1, .int .i64 s.2.2]) := q2e hs
  have e4 : (q0d cl).length = cl.length := q1f _
  have e13 : IntKind.i64.wrap ((i : Int) + 1) = ((i + 1 : Nat) : Int) := by rw [q3f (by omega)]; omega
  unfold qbf
  by_cases c1 : 0 ≤ s.1
  ·have d1 : decide (0 ≤ s.1) = true := by simpa using c1
   by_cases c2 : s.1 < 16
   ·have d2 : decide (s.1 < 16) = true := by simpa using c2
    rw [z6r ⟨c1, c2⟩]
    obtain ⟨r, hr⟩ : ∃ r : Nat, s.1 = r := ⟨s.1.toNat, by omega⟩
    have hr16 : r < 16 := by omega
    have hru : r < u.length := by rw [q1]; exact hr16
    have e5 : (q4v u)[r]? = some (.own 2 (q07 (u.getD r []))) := qhk hru
    have e6 : ((q4v u).set r .hole)[r]? = some .hole := qdt hru
    have e7 := qhl hru s.2
    have e8 : (q07 (u.getD r [])).length = (u.getD r []).length := q0v _
    have hq := q2 r
    have hcl : (cl.take i).length ≤ cl.length := by rw [List.length_take]; omega
    have e9 : (((u.getD r []).length + 1) * 16 ≤ 70368744177664) = True := by simp only [eq_iff_iff, iff_true]; omega
    have e10 : ((u.getD r []).length + 1 ≤ 4611686018427387904) = True := by simp only [eq_iff_iff, iff_true]; omega
    have e11 : (q4v u).length = 16 := by rw [qhj, q1]
    have e12 : (r + 1 ≤ 16) = True := by simp only [eq_iff_iff, iff_true]; omega
    have e14 : ((r : Int) < ((16 : Nat) : Int)) = True := by simp only [eq_iff_iff, iff_true]; omega
    have e15 : (0 ≤ (r : Int)) = True := by simp
    rw [hr] at d1 d2 e3 ⊢
    rw [Int.toNat_natCast]
    (have hF := (aI (aI @e1 (aI @e2 @e3)) (aI @e4 (aI @d1 @d2))); refine q1j (k:=?_); clear hF)
    ((with_reducible apply toW); refine stW (fun j => j == 8) (k:=?_))
    (have hF := (aI (aI (aI (aI @e1 @e2) (aI @e3 @e4)) (aI (aI @d1 @d2) (aI @e5 (aI @e6 @e7)))) (aI (aI (aI @e8 @e9) (aI @e10 @e11)) (aI (aI @e12 @e13) (aI @e14 (aI @e15 @List.length_set.{0}))))); refine q1j (k:=?_); clear hF)
    exact Fin.next (Wk.toL _ _ ⟨rfl, rfl, rfl, rfl, rfl, rfl, rfl, trivial⟩ ⟨rfl, trivial⟩ ⟨rfl, q1d h11, rfl, rfl, q03 cl, rfl, rfl, trivial⟩ ⟨q2n _ _, trivial⟩)
   ·have d2 : decide (s.1 < 16) = false := by simpa using c2
    rw [qct (by omega)]
    (have hF := (aI (aI @e1 (aI @e2 @e3)) (aI (aI @e4 @d1) (aI @d2 @e13))); refine q1j (k:=?_); clear hF)
    exact Fin.next (Wk.toL _ _ ⟨rfl, rfl, rfl, rfl, rfl, rfl, rfl, trivial⟩ ⟨rfl, trivial⟩ ⟨rfl, q1d h11, rfl, rfl, q03 cl, rfl, rfl, trivial⟩ ⟨q2n _ _, trivial⟩)
  ·have d1 : decide (0 ≤ s.1) = false := by simpa using c1
   rw [qct (by omega)]
   (have hF := (aI (aI @e1 (aI @e2 @e3)) (aI @e4 (aI @d1 @e13))); refine q1j (k:=?_); clear hF)
   exact Fin.next (Wk.toL _ _ ⟨rfl, rfl, rfl, rfl, rfl, rfl, rfl, trivial⟩ ⟨rfl, trivial⟩ ⟨rfl, q1d h11, rfl, rfl, q03 cl, rfl, rfl, trivial⟩ ⟨q2n _ _, trivial⟩)
 ·have e1 : ((cl.length : Int) < (cl.length : Int)) = False := by simp
  have e3 : cl.take cl.length = cl := List.take_length
  rw [e3]
  unfold qbf
  (have hF := @e1; refine q1j (k:=?_); clear hF)
  exact h

def q1w (t : Tab) : List AVal := t.map fun l => .sl 2 (q07 l)
theorem encT_fz (M : Mem) (t : Tab) : (q4v t).map (fzc q5q M) = q1w t := by simp [q4v, q1w, fzc]
theorem q1b (t : Tab) : q0j (q1w t) = true := by
 refine qc6 fun x hx => ?_
 obtain ⟨l, _, rfl⟩ := List.mem_map.1 hx
 exact q06 l
theorem qff (ps : List Pst) (hl : ps.length ≤ 1000000000) (hw : (ps.map wt).sum ≤ 900000000) : Ev (En Tryz.prog rfl).P 96 [.sl 2 (q1q ps)] (.ret (.sptr (q1w (q0l ps)))) := by
 refine Ev.of_body it_k96 (by simp) (Run.start ?_)
 unfold t_k96
 have e0 : (q1q ps).length = ps.length := q9r _
 (have hF := @e0; refine q1j (k:=?_); clear hF)
 refine Run.wk (Wk.trans (Wk.own_cells (k := 10) (cs' := q4v q6r) rfl rfl ?_) (Wk.toL [(3, .ptr 10 0), (11, .sl 2 (q1q ps)), (12, .int .i64 ps.length), (13, .int .i64 0)] [(10, .cells (q4v q6r))] ⟨rfl, rfl, rfl, rfl, trivial⟩ ⟨rfl, trivial⟩ ⟨rfl, q0b ps, rfl, rfl, trivial⟩ ⟨q2n _ _, trivial⟩)) ?_
 ·intro i x y hx hy
  have hx' : (List.replicate 16 AVal.nil)[i]? = some x := hx
  rw [List.getElem?_replicate] at hx'
  have hy' : (List.replicate 16 (AVal.own 2 []))[i]? = some y := hy
  rw [List.getElem?_replicate] at hy'
  split at hx'
  ·rename_i h16
   rw [if_pos h16] at hy'
   cases hx'; cases hy'
   exact .inr ⟨rfl, 2, rfl⟩
  ·cases hx'
 refine Run.range ps.length (fun i => ⟨tms [(3, .ptr 10 0), (11, .sl 2 (q1q ps)), (12, .int .i64 ps.length), (13, .int .i64 i)], mms [(10, .cells (q4v ((ps.take i).foldl q1k q6r)))]⟩) (Wk.refl _ _) (fun i hi => ?_) ?_
 ·have hq0 := TabLe.all qa5 (ps.take i)
  obtain ⟨p, hp⟩ : ∃ p, ps[i]? = some p := ⟨ps[i], by simp [hi]⟩
  rw [q32 q1k q6r ps hp]
  have hsum : ((ps.take i).map wt).sum + wt p ≤ (ps.map wt).sum := by
   have : ((ps.take (i + 1)).map wt).sum ≤ (ps.map wt).sum := by rw [List.map_take]; exact q8r _
   rw [List.take_add_one, hp] at this
   simpa using this
  generalize (ps.take i).foldl q1k q6r = u at hq0 ⊢
  generalize ((ps.take i).map wt).sum = m at hq0 hsum
  have hwt : wt p = p.vec.length + p.cloud.length := rfl
  have hv : p.vec.length ≤ 1000000000 := by omega
  have hc : p.cloud.length ≤ 1000000000 := by omega
  have e1 : ((i : Int) < (ps.length : Int)) = True := by simp only [eq_iff_iff, iff_true]; omega
  have e2 : (0 ≤ (i : Int)) = True := by simp
  have e3 : (q1q ps)[i]? = some (.agg [.sl 1 (q05 p.vec), .sl 3 (q0d p.cloud)]) := qdv hp
  have e4 : (q05 p.vec).length = p.vec.length := q0f _
  have e5 : (q0d p.cloud).length = p.cloud.length := q1f _
  have e13 : IntKind.i64.wrap ((i : Int) + 1) = ((i + 1 : Nat) : Int) := by rw [q3f (by omega)]; omega
  unfold q98
  (have hF := (aI (aI @e0 (aI @e1 @e2)) (aI @e3 (aI @e4 @e5))); refine q1j (k:=?_); clear hF)
  refine Run.wk (Wk.toL [(3, .ptr 10 0), (11, .sl 2 (q1q ps)), (12, .int .i64 ps.length), (13, .int .i64 i), (5, .ptr 5 0), (20, .int .i64 (min p.vec.length 16)), (21, .int .i64 0)] [(10, .cells (q4v u)), (5, .cells [.sl 1 (q05 p.vec), .sl 3 (q0d p.cloud)])] ⟨rfl, rfl, rfl, rfl, rfl, rfl, rfl, trivial⟩ ⟨rfl, rfl, trivial⟩ ⟨rfl, q0b ps, rfl, rfl, rfl, rfl, rfl, trivial⟩ ⟨q2n _ _, by simp [ABlk.no, AVal.noC, AVal.no, AVal.stb, q02, q03], trivial⟩) ?_
  refine zip (.sl 2 (q1q ps)) (q0b ps) _ _ p hv u (n0 := 0 + m) hq0 (by omega) ?_
  (have hF := (aI (aI @e0 (aI @e1 @e2)) (aI @e3 (aI @e4 @e5))); refine q1j (k:=?_); clear hF)
  refine Run.wk (Wk.toL [(3, .ptr 10 0), (11, .sl 2 (q1q ps)), (12, .int .i64 ps.length), (13, .int .i64 i), (43, .sl 3 (q0d p.cloud)), (44, .int .i64 p.cloud.length), (45, .int .i64 0)] [(10, .cells (q4v (q5l p.vec u)))] ⟨rfl, rfl, rfl, rfl, rfl, rfl, rfl, trivial⟩ ⟨rfl, trivial⟩ ⟨rfl, q0b ps, rfl, rfl, q03 _, rfl, rfl, trivial⟩ ⟨q2n _ _, trivial⟩) ?_
  refine zio (.sl 2 (q1q ps)) (q0b ps) _ _ p.cloud hc (q5l p.vec u) (n0 := 0 + m + min p.vec.length 16) (TabLe.range hq0 _) (by omega) ?_
  (have hF := (aI (aI @e0 (aI @e1 @e2)) (aI (aI @e3 @e4) (aI @e5 @e13))); refine q1j (k:=?_); clear hF)
  exact Fin.next (Wk.toL _ _ ⟨rfl, rfl, rfl, rfl, trivial⟩ ⟨rfl, trivial⟩ ⟨rfl, q0b ps, rfl, rfl, trivial⟩ ⟨q2n _ _, trivial⟩)
 ·have e1 : ((ps.length : Int) < (ps.length : Int)) = False := by simp
  have e3 : ps.take ps.length = ps := List.take_length
  rw [e3]
  unfold q98
  (have hF := (aI @e0 @e1); refine q1j (k:=?_); clear hF)
  refine Fin.tmp' ?_ (q1b _)
  show AVal.sptr ((((q4v (q0l ps))).map (fzc q5q _)).drop 0) = _
  rw [encT_fz]
  rfl


def lastP (p : Pst) (r : Int) : Int := if 0 ≤ r ∧ r < 16 then lastR ((q0l [p]).getD r.toNat []) else 0
theorem q1h (ps : List Pst) : TabLe (q0l ps) (ps.map wt).sum := by
 have := TabLe.all qa5 ps
 simpa [q0l] using this
theorem q6k {t : Tab} {r : Nat} (h : r < t.length) : (q1w t)[r]? = some (.sl 2 (q07 (t.getD r []))) := by simp [q1w, h]
theorem q5e (t : Tab) : (q1w t).length = t.length := by simp [q1w]
theorem q7t {α : Type} {l : List α} {i : Nat} {x : α} (h : l[i]? = some x) : (l.drop i)[0]? = some x := by simp [h]

section
def q79 (l : List Int) : List Int := l.mergeSort (fun x y => decide (x ≤ y))
theorem q49 (l : List Int) : (q79 l).Perm l := List.mergeSort_perm l _
theorem q4m (l : List Int) : (q79 l).Pairwise (fun x y => x ≤ y) := by
 have := List.pairwise_mergeSort (le := fun (x y : Int) => decide (x ≤ y)) (fun a b c h1 h2 => by simp at *; omega) (fun a b => by simp; omega) l
 exact this.imp fun {a b} h => by simpa using h
theorem q9b (l : List Int) : (q79 l).length = l.length := (q49 l).length_eq
def cnt (l : List Int) (m : Int) : Nat := l.countP fun x => decide (x ≤ m)
theorem q75 (m : Int) : cnt [] m = 0 := rfl
theorem q20 (x : Int) (l : List Int) (m : Int) : cnt (x :: l) m = cnt l m + if x ≤ m then 1 else 0 := by
 unfold cnt
 rw [List.countP_cons]
 simp only [decide_eq_true_eq]
theorem q88 (l l' : List Int) (m : Int) : cnt (l ++ l') m = cnt l m + cnt l' m := List.countP_append
theorem qbs {l l' : List Int} (h : l.Perm l') (m : Int) : cnt l m = cnt l' m := h.countP_eq _
theorem qdz {l : List Int} {m : Int} (h : ∀ x ∈ l, x ≤ m) : cnt l m = l.length := List.countP_eq_length.2 fun x hx => by simpa using h x hx
theorem q42 {l : List Int} {m : Int} (h : ∀ x ∈ l, m < x) : cnt l m = 0 := List.countP_eq_zero.2 fun x hx => by simpa using h x hx
theorem qdy : ∀ {l : List Int} {m : Int} {i : Nat}, i ≤ l.length → (∀ k, k < i → l.getD k 0 ≤ m) → (∀ k, i ≤ k → k < l.length → m < l.getD k 0) → cnt l m = i
 | [], m, i, hi, _, _ => by simp at hi; subst hi; rfl
 | x :: l, m, 0, _, _, h2 => q42 fun y hy => by
  obtain ⟨k, hk, rfl⟩ := List.getElem_of_mem hy
  have := h2 k (by omega) hk
  simpa [List.getD_eq_getElem?_getD, List.getElem?_eq_getElem hk] using this
 | x :: l, m, i + 1, hi, h1, h2 => by
  rw [q20, qdy (i := i) (by simpa using hi) (fun k hk => by simpa using h1 (k + 1) (by omega)) (fun k hk hl => by simpa using h2 (k + 1) (by omega) (by simpa using hl))]
  have := h1 0 (by omega)
  simp at this
  simp [this]
def Srt (l : List Int) : Prop := ∀ a b, a ≤ b → b < l.length → l.getD a 0 ≤ l.getD b 0
theorem Srt.of {l : List Int} (h : l.Pairwise (fun x y => x ≤ y)) : Srt l := by
 intro a b hab hb
 rcases Nat.lt_or_ge a b with h' | h'
 ·have := (List.pairwise_iff_getElem.1 h) a b (by omega) hb h'
  simpa [List.getD_eq_getElem?_getD, List.getElem?_eq_getElem hb, List.getElem?_eq_getElem (show a < l.length by omega)] using this
 ·have : a = b := by omega
  subst this
  exact Int.le_refl _
theorem Srt.get_le : ∀ {l : List Int} {m : Int} {k : Nat}, l.Pairwise (fun x y => x ≤ y) → k < cnt l m → l.getD k 0 ≤ m
 | [], m, k, _, h => by simp [q75] at h
 | x :: l, m, k, hp, h => by
  rw [List.pairwise_cons] at hp
  rw [q20] at h
  split at h
  ·rename_i hx
   cases k with
   | zero => simpa using hx
   | succ k => simpa using Srt.get_le hp.2 (by omega)
  ·rename_i hx
   have : cnt l m = 0 := q42 fun y hy => by have := hp.1 y hy; omega
   omega
theorem Srt.cnt_gt {l : List Int} {m : Int} {k : Nat} (hp : Srt l) (hk : k < l.length) (h : l.getD k 0 ≤ m) : k < cnt l m := by
 have : (l.take (k + 1)).countP (fun x => decide (x ≤ m)) = k + 1 := by
  have h1 : (l.take (k + 1)).length = k + 1 := by rw [List.length_take]; omega
  refine Eq.trans (List.countP_eq_length.2 fun x hx => ?_) h1
  obtain ⟨j, hj, rfl⟩ := List.getElem_of_mem hx
  rw [List.length_take] at hj
  rw [List.getElem_take]
  have := hp j k (by omega) hk
  rw [List.getD_eq_getElem?_getD, List.getElem?_eq_getElem (show j < l.length by omega)] at this
  simp only [Option.getD_some] at this
  simpa using Int.le_trans this h
 have h2 : cnt l m = (l.take (k + 1)).countP (fun x => decide (x ≤ m)) + (l.drop (k + 1)).countP (fun x => decide (x ≤ m)) := by
  rw [← List.countP_append, List.take_append_drop]
  rfl
 omega
structure Sw where
 t : List Int
 deep : Int
 i : Nat
 j : Nat
def swIn (ins : List Int) (s : Sw) : Sw := ⟨if s.deep = 0 then s.t ++ [ins.getD s.i 0] else s.t, s.deep + 1, s.i + 1, s.j⟩
def swOut (outs : List Int) (s : Sw) : Sw := ⟨if s.deep - 1 = 0 then s.t ++ [outs.getD s.j 0] else s.t, s.deep - 1, s.i, s.j + 1⟩
def qg0 (ins outs : List Int) (s : Sw) : Prop := s.i < ins.length ∧ ins.getD s.i 0 ≤ outs.getD s.j 0
structure SwI (ins outs : List Int) (s : Sw) : Prop where
 ij : s.j ≤ s.i
 i : s.i ≤ ins.length
 d : s.deep = (s.i : Int) - s.j
 rise : s.t.Pairwise (fun x y => x < y)
 oi : ∀ k k', k < s.j → s.i ≤ k' → k' < ins.length → outs.getD k 0 < ins.getD k' 0
 io : ∀ k k', k < s.i → s.j ≤ k' → k' < outs.length → ins.getD k 0 ≤ outs.getD k' 0
 t0 : s.deep = 0 → ∀ x ∈ s.t, 0 < s.j ∧ x ≤ outs.getD (s.j - 1) 0
 t1 : 0 < s.deep → ∀ x ∈ s.t, x ≤ ins.getD (s.i - 1) 0
 par : s.t.length % 2 = if 0 < s.deep then 1 else 0
 all : ∀ m, (∀ k, s.i ≤ k → k < ins.length → m < ins.getD k 0) → (∀ k, s.j ≤ k → k < outs.length → m < outs.getD k 0) → (cnt s.t m % 2 = 1 ↔ cnt outs m < cnt ins m)
 src : ∀ x ∈ s.t, x ∈ ins ∨ x ∈ outs
section
variable {ins outs : List Int} (hl : outs.length = ins.length) (hi : Srt ins) (ho : Srt outs) (hlt : ∀ k, k < ins.length → ins.getD k 0 < outs.getD k 0)
theorem SwI.start : SwI ins outs ⟨[], 0, 0, 0⟩ := by
 refine ⟨Nat.le_refl _, Nat.zero_le _, rfl, .nil, fun k k' h => by simp at h, fun k k' h => by simp at h, fun _ x hx => (by simp at hx), fun _ x hx => (by simp at hx), by simp, fun m h1 h2 => ?_, fun x hx => (by simp at hx)⟩
 rw [qdy (l := ins) (i := 0) (Nat.zero_le _) (fun k hk => by omega) h1, qdy (l := outs) (i := 0) (Nat.zero_le _) (fun k hk => by omega) h2]
 simp [q75]
theorem z7d {l : List Int} {k : Nat} (h : k < l.length) : l.getD k 0 ∈ l := by
 rw [List.getD_eq_getElem?_getD, List.getElem?_eq_getElem h]
 simp
theorem qcu {t : List Int} {v : Int} (h : t.Pairwise (fun x y => x < y)) (hv : ∀ x ∈ t, x < v) : (t ++ [v]).Pairwise (fun x y => x < y) := by
 rw [List.pairwise_append]
 exact ⟨h, by simp, fun a ha b hb => by simp at hb; subst hb; exact hv a ha⟩
include hl hi ho hlt in
theorem SwI.stepIn {s : Sw} (h : SwI ins outs s) (ht : qg0 ins outs s) : SwI ins outs (swIn ins s) := by
 obtain ⟨t, deep, i, j⟩ := s
 obtain ⟨h1, h2, h3, h4, h5, h6, h7, h8, h9, h10, h11⟩ := h
 obtain ⟨g1, g2⟩ := ht
 simp only at *
 have hjl : j < outs.length := by omega
 have low : ∀ x ∈ t, x ≤ ins.getD i 0 ∧ (deep = 0 → x < ins.getD i 0) := by
  intro x hx
  by_cases hd : deep = 0
  ·obtain ⟨q1, q2⟩ := h7 hd x hx
   have := h5 (j - 1) i (by omega) (Nat.le_refl _) g1
   omega
  ·have q := h8 (by omega) x hx
   have := hi (i - 1) i (by omega) g1
   exact ⟨by omega, fun h => absurd h hd⟩
 have hlow : ∀ x ∈ (if deep = 0 then t ++ [ins.getD i 0] else t), x ≤ ins.getD i 0 := by
  intro x hx
  split at hx
  ·rcases List.mem_append.1 hx with hx | hx
   ·exact (low x hx).1
   ·simp only [List.mem_singleton] at hx; omega
  ·exact (low x hx).1
 have hpar : (if deep = 0 then t ++ [ins.getD i 0] else t).length % 2 = 1 := by
  by_cases hd : deep = 0
  ·rw [if_pos hd]
   rw [if_neg (by omega)] at h9
   simp only [List.length_append, List.length_cons, List.length_nil]
   omega
  ·rw [if_neg hd]
   rw [if_pos (by omega)] at h9
   exact h9
 unfold swIn
 refine ⟨?_, ?_, ?_, ?_, ?_, ?_, ?_, ?_, ?_, ?_, ?_⟩ <;> simp only
 ·omega
 ·omega
 ·omega
 ·split
  ·rename_i hd
   exact qcu h4 fun x hx => (low x hx).2 hd
  ·exact h4
 ·intro k k' a b c
  exact h5 k k' a (by omega) c
 ·intro k k' a b c
  rcases Nat.lt_or_ge k i with hk | hk
  ·exact h6 k k' hk b c
  ·have : k = i := by omega
   subst this
   have := ho j k' b c
   omega
 ·intro hd
  omega
 ·intro _ x hx
  rw [Nat.add_sub_cancel]
  exact hlow x hx
 ·rw [hpar, if_pos (by omega)]
 ·intro m a b
  by_cases hm : m < ins.getD i 0
  ·have := h10 m (fun k hk hkl => by
    rcases Nat.eq_or_lt_of_le hk with rfl | hk
    ·exact hm
    ·exact a k (by omega) hkl) b
   rw [← this]
   split
   ·rw [q88, q42 (l := [ins.getD i 0]) (by simpa using hm)]
    simp
   ·rfl
  ·rw [qdz fun x hx => Int.le_trans (hlow x hx) (by omega), hpar, qdy (l := ins) (i := i + 1) (by omega) (fun k hk => Int.le_trans (hi k i (by omega) g1) (by omega)) a,
    qdy (l := outs) (i := j) (by omega) (fun k hk => by have := h5 k i hk (Nat.le_refl _) g1; omega) b]
   simp
   omega
 ·intro x hx
  split at hx
  ·rcases List.mem_append.1 hx with hx | hx
   ·exact h11 x hx
   ·simp only [List.mem_singleton] at hx; subst hx; exact .inl (z7d g1)
  ·exact h11 x hx
include hl hi ho hlt in
theorem SwI.stepOut {s : Sw} (h : SwI ins outs s) (hj : s.j < outs.length) (ht : ¬ qg0 ins outs s) : SwI ins outs (swOut outs s) ∧ 1 ≤ s.deep := by
 obtain ⟨t, deep, i, j⟩ := s
 obtain ⟨h1, h2, h3, h4, h5, h6, h7, h8, h9, h10, h11⟩ := h
 unfold qg0 at ht
 simp only at *
 have hd : 0 < deep := by
  rcases Nat.lt_or_ge j i with h | h
  ·omega
  ·exfalso
   have : i = j := by omega
   subst this
   have := hlt i (by omega)
   exact ht ⟨by omega, by omega⟩
 have low : ∀ x ∈ t, x ≤ outs.getD j 0 ∧ (deep - 1 = 0 → x < outs.getD j 0) := by
  intro x hx
  have q := h8 hd x hx
  have := h6 (i - 1) j (by omega) (Nat.le_refl _) hj
  refine ⟨by omega, fun he => ?_⟩
  have : i - 1 = j := by omega
  rw [this] at q
  have := hlt j (by omega)
  omega
 have hlow : ∀ x ∈ (if deep - 1 = 0 then t ++ [outs.getD j 0] else t), x ≤ outs.getD j 0 := by
  intro x hx
  split at hx
  ·rcases List.mem_append.1 hx with hx | hx
   ·exact (low x hx).1
   ·simp only [List.mem_singleton] at hx; omega
  ·exact (low x hx).1
 have hpar : (if deep - 1 = 0 then t ++ [outs.getD j 0] else t).length % 2 = if 0 < deep - 1 then 1 else 0 := by
  rw [if_pos hd] at h9
  by_cases he : deep - 1 = 0
  ·rw [if_pos he, if_neg (by omega)]
   simp only [List.length_append, List.length_cons, List.length_nil]
   omega
  ·rw [if_neg he, if_pos (by omega)]
   exact h9
 refine ⟨?_, by omega⟩
 unfold swOut
 refine ⟨?_, ?_, ?_, ?_, ?_, ?_, ?_, ?_, ?_, ?_, ?_⟩ <;> simp only
 ·omega
 ·omega
 ·omega
 ·split
  ·rename_i he
   exact qcu h4 fun x hx => (low x hx).2 he
  ·exact h4
 ·intro k k' a b c
  rcases Nat.lt_or_ge k j with hk | hk
  ·exact h5 k k' hk b c
  ·have : k = j := by omega
   subst this
   have q1 := hi i k' b c
   rcases Nat.lt_or_ge i ins.length with hil | hil
   ·rcases Int.lt_or_le (outs.getD k 0) (ins.getD i 0) with h | h
    ·omega
    ·exact absurd ⟨hil, h⟩ ht
   ·omega
 ·intro k k' a b c
  exact h6 k k' a (by omega) c
 ·intro he x hx
  rw [Nat.add_sub_cancel]
  exact ⟨by omega, hlow x hx⟩
 ·intro he x hx
  rw [if_neg (by omega)] at hx
  exact h8 hd x hx
 ·exact hpar
 ·intro m a b
  by_cases hm : m < outs.getD j 0
  ·have := h10 m a (fun k hk hkl => by
    rcases Nat.eq_or_lt_of_le hk with rfl | hk
    ·exact hm
    ·exact b k (by omega) hkl)
   rw [← this]
   split
   ·rw [q88, q42 (l := [outs.getD j 0]) (by simpa using hm)]
    simp
   ·rfl
  ·rw [qdz fun x hx => Int.le_trans (hlow x hx) (by omega), hpar, qdy (l := outs) (i := j + 1) (by omega) (fun k hk => Int.le_trans (ho k j (by omega) hj) (by omega)) b,
    qdy (l := ins) (i := i) h2 (fun k hk => by have := h6 k j hk (Nat.le_refl _) hj; omega) a]
   split
   ·simp; omega
   ·simp; omega
 ·intro x hx
  split at hx
  ·rcases List.mem_append.1 hx with hx | hx
   ·exact h11 x hx
   ·simp only [List.mem_singleton] at hx; subst hx; exact .inr (z7d hj)
  ·exact h11 x hx
end
structure Turns (q : Int → Prop) (t : List Int) : Prop where
 rise : t.Pairwise (fun x y => x < y)
 even : t.length % 2 = 0
 mem : ∀ m, q m ↔ cnt t m % 2 = 1
theorem SwI.turns {ins outs : List Int} {s : Sw} (h : SwI ins outs s) (hi : s.i = ins.length) (hj : s.j = ins.length) (hl : outs.length = ins.length) : Turns (fun m => cnt outs m < cnt ins m) s.t := by
 have hd : s.deep = 0 := by have := h.d; omega
 refine ⟨h.rise, ?_, fun m => (h.all m (fun k hk => by omega) (fun k hk => by omega)).symm⟩
 have := h.par
 rw [if_neg (by omega)] at this
 exact this
theorem Turns.iff {q q' : Int → Prop} {t : List Int} (h : Turns q t) (hq : ∀ m, q m ↔ q' m) : Turns q' t := ⟨h.rise, h.even, fun m => (hq m).symm.trans (h.mem m)⟩
theorem qp7 (c : List Rn) (hc : ∀ r ∈ c, r.1 ≤ r.2) (m : Int) : cnt (c.map fun r => r.2 + 1) m ≤ cnt (c.map fun r => r.1) m ∧ (cnt (c.map fun r => r.2 + 1) m < cnt (c.map fun r => r.1) m ↔ inR c m) ∧ cnt (c.map fun r => r.2 + 1) m ≤ cnt (c.map fun r => r.1) (m - 1) := by
 induction c with
 | nil => simp [q75, q29]
 | cons x c ih =>
  obtain ⟨h1, h2, h4⟩ := ih fun r hr => hc r (by simp [hr])
  have h3 := hc x (by simp)
  rw [List.map_cons, List.map_cons, q20, q20, q20, q0u, ← h2]
  refine ⟨?_, ?_, ?_⟩
  ·split <;> split <;> omega
  ·split <;> split <;> omega
  ·split <;> split <;> omega
structure Sweep (c : List Rn) (ins outs : List Int) : Prop where
 pi : ins.Perm (c.map fun r => r.1)
 po : outs.Perm (c.map fun r => r.2 + 1)
 si : ins.Pairwise (fun x y => x ≤ y)
 so : outs.Pairwise (fun x y => x ≤ y)
 ok : ∀ r ∈ c, okR r
theorem Sweep.len {c : List Rn} {ins outs : List Int} (h : Sweep c ins outs) : outs.length = ins.length := by rw [h.pi.length_eq, h.po.length_eq]; simp
theorem Sweep.lt {c : List Rn} {ins outs : List Int} (h : Sweep c ins outs) (k : Nat) (hk : k < ins.length) : ins.getD k 0 < outs.getD k 0 := by
 have h1 : k < cnt outs (outs.getD k 0) := Srt.cnt_gt (Srt.of h.so) (by rw [h.len]; exact hk) (Int.le_refl _)
 rw [qbs h.po] at h1
 have h2 := (qp7 c (fun r hr => (h.ok r hr).2.1) (outs.getD k 0)).2.2
 rw [← qbs h.pi] at h2
 have := Srt.get_le h.si (show k < cnt ins (outs.getD k 0 - 1) by omega)
 omega
theorem Sweep.turns {c : List Rn} {ins outs : List Int} (h : Sweep c ins outs) {s : Sw} (hs : SwI ins outs s) (hi : s.i = ins.length) (hj : s.j = ins.length) : Turns (inR c) s.t ∧ ∀ x ∈ s.t, 1 ≤ x ∧ x ≤ 1000000001 := by
 refine ⟨(hs.turns hi hj h.len).iff fun m => ?_, fun x hx => ?_⟩
 ·rw [qbs h.pi, qbs h.po]
  exact (qp7 c (fun r hr => (h.ok r hr).2.1) m).2.1
 ·rcases hs.src x hx with hx | hx
  ·obtain ⟨r, hr, rfl⟩ := List.mem_map.1 (h.pi.mem_iff.1 hx)
   have := h.ok r hr
   unfold okR at this
   omega
  ·obtain ⟨r, hr, rfl⟩ := List.mem_map.1 (h.po.mem_iff.1 hx)
   have := h.ok r hr
   unfold okR at this
   omega
theorem Sweep.of (l : List Rn) : Sweep (q0t l) (q79 ((q0t l).map fun r => r.1)) (q79 ((q0t l).map fun r => r.2 + 1)) :=
 ⟨q49 _, q49 _, q4m _, q4m _, q9v⟩
end
def qw7 : List SOp := [zO 2 (.assign (.const (.slice none 0 0)))]
instance : Live qw7 := ⟨[0]⟩
def qw6 : List SOp := [zM 8 0,zO 9 (.call ⟨.builtin .len,#[.tmp 8],#[23]⟩),zO 10 (.binOp .lss 3 (.tmp 9) (.const (.int .i64 2)) 3)]
instance : Live qw6 := ⟨[0]⟩
def qw5 : List SOp := [zO 11 (.buildSlice 23 0 #[]),zM 12 0,zO 13 (.call ⟨.builtin .append,#[.tmp 11,.tmp 12],#[23,23]⟩),zG 2 13]
instance : Live qw5 := ⟨[0]⟩
def qw4 : List SOp := [zM 14 0,zM 15 0,zO 16 (.call ⟨.builtin .len,#[.tmp 15],#[23]⟩),zO 17 (.binOp .quo 3 (.tmp 16) (.const (.int .i64 2)) 3),zO 18 (.slice 23 (.tmp 14) none (some (.tmp 17)) none),zO 19 (.call ⟨.value (.func 168),#[.tmp 18],#[23]⟩),zG 3 19]
instance : Live qw4 := ⟨[0]⟩
def qw3 : List SOp := [zM 20 0,zM 21 0,zO 22 (.call ⟨.builtin .len,#[.tmp 21],#[23]⟩),zO 23 (.binOp .quo 3 (.tmp 22) (.const (.int .i64 2)) 3),zO 24 (.slice 23 (.tmp 20) (some (.tmp 23)) none none),zO 25 (.call ⟨.value (.func 168),#[.tmp 24],#[23]⟩),zG 4 25]
instance : Live qw3 := ⟨[0,3]⟩
def qw2 : List SOp := [zM 26 0,zO 27 (.call ⟨.builtin .len,#[.tmp 26],#[23]⟩),zO 28 (.makeSlice 23 (.const (.int .i64 0)) (.tmp 27)),zG 5 28]
instance : Live qw2 := ⟨[0,3,4]⟩
def qw1 : List SOp := [zO 6 (.assign (.const (.int .i64 0))),zO 7 (.assign (.const (.int .i64 0)))]
instance : Live qw1 := ⟨[3,4,5]⟩
def qw0 : List SOp := [zM 29 6,zM 30 3,zO 31 (.call ⟨.builtin .len,#[.tmp 30],#[23]⟩),zO 32 (.binOp .lss 3 (.tmp 29) (.tmp 31) 3),zM 33 32,⟨some 34,.move (.tmp 7),some ((some 33),false)⟩,⟨some 35,.move (.tmp 4),some ((some 33),false)⟩,⟨some 36,.call ⟨.builtin .len,#[.tmp 35],#[23]⟩,some ((some 33),false)⟩,⟨some 37,.binOp .lss 3 (.tmp 34) (.tmp 36) 3,some ((some 33),false)⟩,zO 38 (.pick (.tmp 33) (.const (.bool true)) (.tmp 37))]
instance : Live qw0 := ⟨[3,4,5,6,7]⟩
def qvz : List SOp := [zM 39 7,zM 40 4,zO 41 (.call ⟨.builtin .len,#[.tmp 40],#[23]⟩),zO 42 (.binOp .eql 3 (.tmp 39) (.tmp 41) 3),zM 43 42,⟨some 44,.move (.tmp 6),some ((some 43),false)⟩,⟨some 45,.move (.tmp 3),some ((some 43),false)⟩,⟨some 46,.call ⟨.builtin .len,#[.tmp 45],#[23]⟩,some ((some 43),false)⟩,⟨some 47,.binOp .lss 3 (.tmp 44) (.tmp 46) 3,some ((some 43),false)⟩,⟨some 48,.move (.tmp 47),some ((some 43),false)⟩,⟨some 49,.move (.tmp 3),some ((some 48),true)⟩,⟨some 50,.move (.tmp 6),some ((some 48),true)⟩,⟨some 51,.indexAddr 23 (.tmp 49) (.tmp 50),some ((some 48),true)⟩,⟨some 52,.load 3 (.tmp 51),some ((some 48),true)⟩,⟨some 53,.move (.tmp 4),some ((some 48),true)⟩,⟨some 54,.move (.tmp 7),some ((some 48),true)⟩,⟨some 55,.indexAddr 23 (.tmp 53) (.tmp 54),some ((some 48),true)⟩,⟨some 56,.load 3 (.tmp 55),some ((some 48),true)⟩,⟨some 57,.binOp .leq 3 (.tmp 52) (.tmp 56) 3,some ((some 48),true)⟩,⟨some 58,.pick (.tmp 48) (.tmp 57) (.const (.bool false)),some ((some 43),false)⟩,zO 59 (.pick (.tmp 43) (.const (.bool true)) (.tmp 58))]
instance : Live qvz := ⟨[3,4,5,6,7]⟩
def qkc : List SOp := [zM 60 5,zM 61 3,zM 62 6,zI 63 23 61 62,zL 64 3 63,zO 65 (.buildSlice 23 1 #[(0,.tmp 64)]),zO 66 (.call ⟨.builtin .append,#[.tmp 60,.tmp 65],#[23,23]⟩),zG 5 66]
instance : Live qkc := ⟨[3,4,5,6,7]⟩
def qkb : List SOp := [zM 67 6,zO 68 (.binOp .add 3 (.tmp 67) (.const (.int .i64 1)) 3),zG 6 68]
instance : Live qkb := ⟨[3,4,5,6,7]⟩
def qka : List SOp := [zM 69 5,zM 70 4,zM 71 7,zI 72 23 70 71,zL 73 3 72,zO 74 (.buildSlice 23 1 #[(0,.tmp 73)]),zO 75 (.call ⟨.builtin .append,#[.tmp 69,.tmp 74],#[23,23]⟩),zG 5 75]
instance : Live qka := ⟨[3,4,5,6,7]⟩
def qk9 : List SOp := [zM 76 7,zO 77 (.binOp .add 3 (.tmp 76) (.const (.int .i64 1)) 3),zG 7 77]
instance : Live qk9 := ⟨[3,4,5,6,7]⟩
def qk8 : List SOp := [zM 78 5,zG 2 78]
instance : Live qk8 := ⟨[5]⟩
def qij : SC :=
 (.seq (.seq (.ops false qw0) (.cond (.tmp 38) .skip (.exit 0))) (.block 1 (.seq (.ops true qvz) (.cond (.tmp 59) (.seq (.ops false qkc) (.ops false qkb)) (.seq (.ops false qka) (.ops false qk9))))))
def zat : SC :=
 (.seq (.ops false qw7) (.seq (.seq (.ops false qw6) (.cond (.tmp 10) (.seq (.ops false qw5) .ret) .skip)) (.seq (.ops false qw4) (.seq (.ops false qw3) (.seq (.ops false qw2) (.seq (.ops false qw1) (.seq (.block 0 (.loop qij)) (.seq (.ops false qk8) .ret))))))))
theorem zjd : FnIs Tryz.prog 168 79 [.tmp 2] zat := ⟨Tryz.f168, _, Tryz.func168, rfl, rfl, rfl, rfl, by kernel_rfl⟩

theorem q9s {l : List Int} {i : Nat} (h : i < l.length) : (q05 l)[i]? = some (.int .i64 (l.getD i 0)) := q0w (by simp [h])
theorem q6n (l : List Int) (i : Nat) : (q05 l).take i = q05 (l.take i) := by simp [q05]
theorem qal (l : List Int) (i : Nat) : (q05 l).drop i = q05 (l.drop i) := by simp [q05]
theorem q3p (l : List Int) (x : Int) : q05 l ++ [.int .i64 x] = q05 (l ++ [x]) := by simp [q05, encI]
theorem zkv : q05 [] = [] := rfl
def leI (x y : Int) : Bool := decide (x ≤ y)
theorem qf4 {a b : List Int} {i j : Nat} (hi : i < a.length) (h : j = b.length ∨ a.getD i 0 ≤ b.getD j 0) (hj : j ≤ b.length) : List.merge (a.drop i) (b.drop j) leI = a.getD i 0 :: List.merge (a.drop (i + 1)) (b.drop j) leI := by
 rw [List.drop_eq_getElem_cons hi]
 have e : a.getD i 0 = a[i] := by simp [hi]
 rcases Nat.lt_or_ge j b.length with h' | h'
 ·rw [List.drop_eq_getElem_cons h', List.cons_merge_cons]
  have e2 : b.getD j 0 = b[j] := by simp [h']
  rw [e, e2] at h
  have h3 : a[i] ≤ b[j] := by rcases h with h | h; omega; exact h
  simp [leI, h3, e, hi]
 ·rw [List.drop_of_length_le h']
  simp [List.merge, hi]
theorem qd5 {a b : List Int} {i j : Nat} (hj : j < b.length) (h : i = a.length ∨ ¬ a.getD i 0 ≤ b.getD j 0) (hi : i ≤ a.length) : List.merge (a.drop i) (b.drop j) leI = b.getD j 0 :: List.merge (a.drop i) (b.drop (j + 1)) leI := by
 rw [List.drop_eq_getElem_cons hj]
 have e2 : b.getD j 0 = b[j] := by simp [hj]
 rcases Nat.lt_or_ge i a.length with h' | h'
 ·rw [List.drop_eq_getElem_cons h', List.cons_merge_cons]
  have e : a.getD i 0 = a[i] := by simp [h']
  rw [e, e2] at h
  have h3 : ¬ a[i] ≤ b[j] := by rcases h with h | h; omega; exact h
  simp [leI, h3, e2, hj]
 ·rw [List.drop_of_length_le h']
  simp [List.merge, hj]
theorem qof {l a b : List Int} (ha : a.Perm (l.take (l.length / 2))) (hb : b.Perm (l.drop (l.length / 2))) (sa : a.Pairwise (fun x y => x ≤ y)) (sb : b.Pairwise (fun x y => x ≤ y)) : List.merge a b leI = q79 l := by
 have h1 : (List.merge a b leI).Perm l := by
  refine List.Perm.trans (List.merge_perm_append leI) ?_
  refine List.Perm.trans (ha.append hb) ?_
  rw [List.take_append_drop]
 have h2 : (List.merge a b leI).Pairwise (fun x y => leI x y = true) := List.pairwise_merge (le := leI) (fun a b c h1 h2 => by simp [leI] at *; omega) (fun a b => by simp [leI]; omega) _ _ (sa.imp fun {a b} h => by simpa [leI] using h) (sb.imp fun {a b} h => by simpa [leI] using h)
 have h3 := q4m l
 refine List.Perm.eq_of_pairwise (le := fun x y => x ≤ y) (fun a b _ _ h1 h2 => by omega) (h2.imp fun {a b} h => by simpa [leI] using h) h3 (h1.trans (q49 l).symm)
theorem qc7 {l : List Int} (h : l.length < 2) : q79 l = l := by
 have := q49 l
 match l, h with
 | [], _ => exact List.Perm.eq_nil this
 | [x], _ => exact List.Perm.eq_singleton this
theorem zke (l : List Int) (hl : l.length ≤ 1000000000) : Ev (En Tryz.prog rfl).P 168 [.sl 1 (q05 l)] (.ret (.sl 1 (q05 (q79 l)))) := by
 suffices h : ∀ n l, l.length ≤ n → l.length ≤ 1000000000 → Ev (En Tryz.prog rfl).P 168 [.sl 1 (q05 l)] (.ret (.sl 1 (q05 (q79 l)))) from h _ l (Nat.le_refl _) hl
 clear hl l
 intro n
 induction n with
 | zero =>
  intro l hn hl
  have : l = [] := List.length_eq_zero_iff.1 (by omega)
  subst this
  refine Ev.of_body zjd (by simp) (Run.start ?_)
  unfold zat
  rw [qc7 (by simp), zkv]
  (have hF := True.intro; refine q01 (k:=?_); clear hF)
  exact Fin.tmp' rfl rfl
 | succ n ih =>
 intro l hn hl
 refine Ev.of_body zjd (by simp) (Run.start ?_)
 unfold zat
 have e0 := q0f l
 have e1 : (0:Int) ≤ ((l.length / 2 : Nat) : Int) := by omega
 (focus (have hF := (aI (aI @e0 @e1) (aI @q6n @qal)); (repeat' (first | refine go1 (k:=?_) | with_reducible refine Ny.of ?_ ?_ | (refine Hyp.of ?_; intro hc; (try simp only [hc]); (try simp only [Bh] at hc)))); all_goals clear hF))
 ·refine Fin.tmp' ?_ (q02 _)
  rw [qc7 (by omega)]
  rfl
 ·have c1 := ih (l.take (l.length / 2)) (by rw [List.length_take]; omega) (by rw [List.length_take]; omega)
  have c2 := ih (l.drop (l.length / 2)) (by rw [List.length_drop]; omega) (by rw [List.length_drop]; omega)
  have l1 : (q79 (l.take (l.length / 2))).length = l.length / 2 := by rw [q9b, List.length_take]; omega
  have l2 : (q79 (l.drop (l.length / 2))).length = l.length - l.length / 2 := by rw [q9b, List.length_drop]
  have hm := qof (q49 (l.take (l.length / 2))) (q49 (l.drop (l.length / 2))) (q4m _) (q4m _)
  generalize q79 (l.take (l.length / 2)) = a at c1 l1 hm
  generalize q79 (l.drop (l.length / 2)) = b at c2 l2 hm
  refine q00 [.sl 1 (q05 (l.take (l.length / 2)))] (he := c1) (k:=?_)
  (have hF := (aI (aI @e0 @e1) (aI @q6n @qal)); refine q01 (k:=?_); clear hF)
  refine q00 [.sl 1 (q05 (l.drop (l.length / 2)))] (he := c2) (k:=?_)
  (have hF := (aI (aI @e0 @e1) (aI @q6n @qal)); refine q01 (k:=?_); clear hF)
  refine Run.while (σ := List Int × Nat × Nat) (fun q => ⟨tms [(3, .sl 1 (q05 a)), (4, .sl 1 (q05 b)), (5, .os 28 q.1.length), (6, .int .i64 q.2.1), (7, .int .i64 q.2.2)], mms [(28, .arr q.1.length 1 (q05 q.1))]⟩)
   (fun q => q.1.length = q.2.1 + q.2.2 ∧ q.2.1 ≤ a.length ∧ q.2.2 ≤ b.length ∧ q.1 ++ List.merge (a.drop q.2.1) (b.drop q.2.2) leI = List.merge a b leI) (fun q => a.length + b.length - q.1.length) ([], 0, 0) (have hW := True.intro; q0h) ⟨rfl, Nat.zero_le _, Nat.zero_le _, by simp⟩ ?_
  rintro ⟨s, i, j⟩ ⟨h1, h2, h3, h4⟩
  dsimp only at h1 h2 h3 h4
  unfold qij
  have f1 := q0f a
  have f2 := q0f b
  have f3 := q0f s
  (focus (have hF := (aI (aI @f1 (aI @f2 @f3)) (aI @q9s (aI @q3p @Int.natCast_inj))); (repeat' (first | refine go1 (k:=?_) | with_reducible refine Ny.of ?_ ?_ | (refine Hyp.of ?_; intro hc; (try simp only [hc]); (try simp only [Bh] at hc)))); all_goals clear hF))
  ·(refine Fin.nextW (s ++ [a.getD i 0], i + 1, j) ?_ (have hW := True.intro; q0h); (try dsimp only))
   refine ⟨⟨(by first | omega | (simp only [List.length_append, List.length_cons, List.length_nil]; omega)), (by first | omega | (simp only [List.length_append, List.length_cons, List.length_nil]; omega)), h3, ?_⟩, (by first | omega | (simp only [List.length_append, List.length_cons, List.length_nil]; omega))⟩
   rw [← h4, qf4 (i := i) (j := j) (by omega) (.inl hc) h3]; simp
  ·(refine Fin.nextW (s ++ [a.getD i 0], i + 1, j) ?_ (have hW := True.intro; q0h); (try dsimp only))
   refine ⟨⟨(by first | omega | (simp only [List.length_append, List.length_cons, List.length_nil]; omega)), (by first | omega | (simp only [List.length_append, List.length_cons, List.length_nil]; omega)), h3, ?_⟩, (by first | omega | (simp only [List.length_append, List.length_cons, List.length_nil]; omega))⟩
   rw [← h4, qf4 (i := i) (j := j) (by omega) (.inr hc) h3]; simp
  ·(refine Fin.nextW (s ++ [b.getD j 0], i, j + 1) ?_ (have hW := True.intro; q0h); (try dsimp only))
   refine ⟨⟨(by first | omega | (simp only [List.length_append, List.length_cons, List.length_nil]; omega)), h2, (by first | omega | (simp only [List.length_append, List.length_cons, List.length_nil]; omega)), ?_⟩, (by first | omega | (simp only [List.length_append, List.length_cons, List.length_nil]; omega))⟩
   rw [← h4, qd5 (i := i) (j := j) (by omega) (.inr hc) h2]; simp
  ·(refine Fin.nextW (s ++ [b.getD j 0], i, j + 1) ?_ (have hW := True.intro; q0h); (try dsimp only))
   refine ⟨⟨(by first | omega | (simp only [List.length_append, List.length_cons, List.length_nil]; omega)), h2, (by first | omega | (simp only [List.length_append, List.length_cons, List.length_nil]; omega)), ?_⟩, (by first | omega | (simp only [List.length_append, List.length_cons, List.length_nil]; omega))⟩
   rw [← h4, qd5 (i := i) (j := j) (by omega) (.inl (by omega)) h2]; simp
  ·have hs : s = q79 l := by
    rw [← hm, ← h4, show i = a.length by omega, show j = b.length by omega, List.drop_length, List.drop_length]
    simp [List.merge]
   rw [← hs]
   exact qg8 (.sl 1 (q05 s))

def zc9 : List SOp := [zO 2 (.alloc 26)]
instance : Live zc9 := ⟨[0]⟩
def zc8 : List SOp := [zO 3 (.alloc 26)]
instance : Live zc8 := ⟨[0,2]⟩
def zc7 : List SOp := [zO 11 (.makeSlice 23 (.const (.int .i64 16)) (.const (.int .i64 16))),zG 4 11]
instance : Live zc7 := ⟨[0,2,3]⟩
def zc6 : List SOp := [zO 5 (.assign (.const (.int .i64 0)))]
instance : Live zc6 := ⟨[0,2,3,4]⟩
def zc5 : List SOp := [zO 12 (.move (.const (.int .i64 0)))]
instance : Live zc5 := ⟨[0,2,3,4,5]⟩
def zc4 : List SOp := [zO 13 (.binOp .lss 3 (.tmp 12) (.const (.int .i64 16)) 3)]
instance : Live zc4 := ⟨[0,2,3,4,5,12]⟩
def zc3 : List SOp := [zM 14 12,zG 6 14]
instance : Live zc3 := ⟨[0,2,3,4,5,12]⟩
def zc2 : List SOp := [zM 16 0,zM 17 6,zO 18 (.nilCheck (.tmp 16)),zI 19 151 18 17,zL 20 149 19,zO 21 (.call ⟨.value (.func 134),#[.tmp 20],#[149]⟩),zM 15 21,zX 22 15 0,zX 23 15 1,zG 7 22,zG 8 23]
instance : Live zc2 := ⟨[0,2,3,4,5,6,12]⟩
def zc1 : List SOp := [zM 24 4,zM 25 6,zM 26 7,zI 27 23 24 25,⟨none,.store 3 (.tmp 27) (.tmp 26),none⟩]
instance : Live zc1 := ⟨[0,2,3,4,5,6,7,8,12]⟩
def qsu : List SOp := [zM 28 7,zO 29 (.binOp .gtr 3 (.tmp 28) (.const (.int .i64 0)) 3)]
instance : Live qsu := ⟨[0,2,3,4,5,6,7,8,12]⟩
def qst : List SOp := [zM 30 6,zO 31 (.binOp .add 3 (.tmp 30) (.const (.int .i64 1)) 3),zG 5 31]
instance : Live qst := ⟨[0,2,3,4,6,8,12]⟩
def qss : List SOp := [zM 32 8,zO 33 (.call ⟨.builtin .len,#[.tmp 32],#[149]⟩),zO 34 (.move (.const (.int .i64 0)))]
instance : Live qss := ⟨[0,2,3,4,5,6,8,12]⟩
def qsr : List SOp := [zO 35 (.binOp .lss 3 (.tmp 34) (.tmp 33) 3)]
instance : Live qsr := ⟨[0,2,3,4,5,6,12,32,33,34]⟩
def qsq : List SOp := [zI 36 149 32 34,zL 37 179 36,zO 10 (.alloc 179),⟨none,.store 179 (.tmp 10) (.tmp 37),none⟩]
instance : Live qsq := ⟨[0,2,3,4,5,6,12,32,33,34]⟩
def qsp : List SOp := [zF 38 26 3 1,zL 39 24 38,zM 40 6,zF 41 179 10 0,zL 42 3 41,zF 43 179 10 1,zL 44 3 43,zO 45 (.build 127 #[(0,.tmp 40),(1,.tmp 42),(2,.tmp 44)]),zO 46 (.buildSlice 24 1 #[(0,.tmp 45)]),zO 47 (.call ⟨.builtin .append,#[.tmp 39,.tmp 46],#[24,24]⟩),zF 48 26 3 1,⟨none,.store 24 (.tmp 48) (.tmp 47),none⟩]
instance : Live qsp := ⟨[0,2,3,4,5,6,10,12,32,33,34]⟩
def qso : List SOp := [zO 49 (.binOp .add 3 (.tmp 34) (.const (.int .i64 1)) 3),zM 34 49]
instance : Live qso := ⟨[0,2,3,4,5,6,12,32,33,34]⟩
def qsn : List SOp := [zO 50 (.binOp .add 3 (.tmp 12) (.const (.int .i64 1)) 3),zM 12 50]
instance : Live qsn := ⟨[0,2,3,4,5,12]⟩
def qsm : List SOp := [zM 51 5,zO 52 (.binOp .gtr 3 (.tmp 51) (.const (.int .i64 0)) 3)]
instance : Live qsm := ⟨[2,3,4,5]⟩
def qsl : List SOp := [zM 53 4,zM 54 5,zO 55 (.slice 23 (.tmp 53) none (some (.tmp 54)) none),zO 56 (.call ⟨.value (.func 135),#[.tmp 55],#[23]⟩),zF 57 26 3 0,⟨none,.store 23 (.tmp 57) (.tmp 56),none⟩]
instance : Live qsl := ⟨[2,3,4,5]⟩
def qsk : List SOp := [zL 58 26 3,⟨none,.store 26 (.tmp 2) (.tmp 58),none⟩]
instance : Live qsk := ⟨[2,3]⟩
def qru : SC :=
 (.seq (.ops false qsr) (.seq (.cond (.tmp 35) .skip (.exit 2)) (.seq (.block 3 (.seq (.ops false qsq) (.ops false qsp))) (.ops false qso))))
def qrv : SC :=
 (.seq (.ops false zc4) (.seq (.cond (.tmp 13) .skip (.exit 0)) (.seq (.block 1 (.seq (.ops false zc3) (.seq (.ops false zc2) (.seq (.ops false zc1) (.seq (.seq (.ops false qsu) (.cond (.tmp 29) (.ops false qst) .skip)) (.seq (.ops false qss) (.block 2 (.loop qru)))))))) (.ops false qsn))))
def t_k97 : SC :=
 (.seq (.ops false zc9) (.seq (.ops false zc8) (.seq (.ops false zc7) (.seq (.ops false zc6) (.seq (.seq (.ops false zc5) (.block 0 (.loop qrv))) (.seq (.seq (.ops false qsm) (.cond (.tmp 52) (.ops false qsl) .skip)) (.seq (.ops false qsk) .ret)))))))
theorem it_k97 : FnIs Tryz.prog 97 59 [.cell 2 26] t_k97 := ⟨Tryz.f97, _, Tryz.func97, rfl, rfl, rfl, rfl, by kernel_rfl⟩

theorem ev_k134 (l : List Rn) (hl : l.length ≤ 900000000) : Ev (En Tryz.prog rfl).P 134 [.sl 2 (q07 l)] (.ret (.tup [.int .i64 (q1p (q13 l)).1, .sl 2 (q07 (q1p (q13 l)).2)])) :=
 z9i l (q13 l) (by have := q1z l; omega) (qdp l hl)
def q8y (t : Tab) (r : Nat) : Int := (q1p (q13 (t.getD r []))).1
def q66 (t : Tab) (r : Nat) : List Rn := (q1p (q13 (t.getD r []))).2
def q9a (r : Nat) (x : Rn) : Sn := ((r : Int), x.1, x.2)
def q62 (t : Tab) (r : Nat) : List Sn := (q66 t r).map (q9a r)
def q1u (t : Tab) (n : Nat) : List Sn := (List.range n).flatMap (q62 t)
def q2z (t : Tab) (n : Nat) : Nat := (List.range n).foldl (fun a r => if 0 < q8y t r then r + 1 else a) 0
def q2r (t : Tab) (n : Nat) : List Int := (List.range n).map (q8y t)
def qav (t : Tab) (n : Nat) : List Int := q2r t n ++ List.replicate (16 - n) 0
def q67 (t : Tab) : Pst := ⟨(q2r t 16).take (q2z t 16), q1u t 16⟩
theorem qad (l : List Rn) : (q1p l).2.length ≤ l.length := by
 cases l with
 | nil => simp [q1p]
 | cons x l => simp only [q1p]; split <;> simp
theorem qjr {t : Tab} {n : Nat} (h : TabLe t n) (r : Nat) : (q66 t r).length ≤ n := by
 have h1 := qad (q13 (t.getD r []))
 have h2 := q1z (t.getD r [])
 have h3 := h.2 r
 unfold q66
 omega
theorem q76 (t : Tab) (n : Nat) : q1u t (n + 1) = q1u t n ++ q62 t n := by
 unfold q1u
 rw [List.range_succ, List.flatMap_append]
 simp
theorem qan {t : Tab} {n : Nat} (h : TabLe t n) : ∀ m, (q1u t m).length ≤ m * n
 | 0 => by simp [q1u]
 | m + 1 => by
  rw [q76, List.length_append, Nat.succ_mul]
  have h1 := qan h m
  have h2 := qjr h m
  simp only [q62, List.length_map]
  omega
theorem q7x (t : Tab) (n : Nat) : q2z t (n + 1) = if 0 < q8y t n then n + 1 else q2z t n := by
 unfold q2z
 rw [List.range_succ, List.foldl_append]
 rfl
theorem q9c (t : Tab) : ∀ n, q2z t n ≤ n
 | 0 => Nat.le_refl _
 | n + 1 => by rw [q7x]; split; omega; have := q9c t n; omega
theorem qda (t : Tab) (n : Nat) : q2r t (n + 1) = q2r t n ++ [q8y t n] := by
 unfold q2r
 rw [List.range_succ, List.map_append]
 rfl
theorem q31 (t : Tab) (n : Nat) : (q2r t n).length = n := by simp [q2r]
theorem qbd (t : Tab) {n : Nat} (h : n ≤ 16) : (qav t n).length = 16 := by
 simp [qav, q31]; omega
theorem qro (t : Tab) {n : Nat} (h : n < 16) : (q05 (qav t n))[n]? = some (.int .i64 0) := by
 refine q0w ?_
 unfold qav
 rw [List.getElem?_append_right (by rw [q31]; exact Nat.le_refl _), q31, Nat.sub_self, List.getElem?_replicate, if_pos (by omega)]
theorem qrn (t : Tab) {n : Nat} (h : n < 16) : (q05 (qav t n)).set n (.int .i64 (q8y t n)) = q05 (qav t (n + 1)) := by
 have e : (qav t n).set n (q8y t n) = qav t (n + 1) := by
  unfold qav
  rw [List.set_append_right _ _ (by rw [q31]; exact Nat.le_refl _), q31, Nat.sub_self, show 16 - n = (16 - (n + 1)) + 1 by omega, List.replicate_succ, List.set_cons_zero, qda, List.append_assoc]
  rfl
 rw [← e]
 simp [q05, encI, List.map_set]
theorem q84 (l : List Sn) (a b c : Int) : q0d l ++ [.agg [.int .i64 a, .int .i64 b, .int .i64 c]] = q0d (l ++ [(a, b, c)]) := by simp [q0d, qr4]
def zbc (t : Tab) (r c : Nat) : List Sn := q1u t r ++ ((q66 t r).take c).map (q9a r)
theorem zba (t : Tab) (r : Nat) : zbc t r 0 = q1u t r := by simp [zbc]
theorem zbb {t : Tab} {r c : Nat} {x : Rn} (hx : (q66 t r)[c]? = some x) : zbc t r (c + 1) = zbc t r c ++ [((r : Int), x.1, x.2)] := by
 unfold zbc
 rw [List.take_add_one, hx]
 simp [q9a]
theorem rowC_all (t : Tab) (r : Nat) : zbc t r (q66 t r).length = q1u t (r + 1) := by
 unfold zbc
 rw [q76, List.take_length]
 rfl
theorem rowC_len (t : Tab) (r c : Nat) : (zbc t r c).length ≤ (q1u t r).length + (q66 t r).length := by
 simp only [zbc, List.length_append, List.length_map, List.length_take]
 omega
theorem z7k (t : Tab) {n : Nat} (ht : TabLe t n) (hn : n ≤ 50000000) : Ev (En Tryz.prog rfl).P 97 [.sptr (q1w t)] (.ret (q0g (q67 t))) := by
 refine Ev.of_body it_k97 (by simp) (Run.start ?_)
 unfold t_k97
 have h16 : (q1w t).length = 16 := by rw [q5e, ht.1]
 (have hF := @h16; refine q01 (k:=?_); clear hF)
 refine Run.wk (Wk.own_cells (k := 3) (cs' := [.own 1 [], .own 3 []]) rfl rfl ?_) ?_
 ·intro i x y hx hy
  match i with
  | 0 => simp at hx hy; subst hx; subst hy; exact .inr ⟨rfl, 1, rfl⟩
  | 1 => simp at hx hy; subst hx; subst hy; exact .inr ⟨rfl, 3, rfl⟩
  | i + 2 => simp at hx
 refine Run.while (σ := Nat) (fun r => ⟨tms [(0, .sptr (q1w t)), (2, .ptr 2 0), (3, .ptr 3 0), (4, .os 11 0), (5, .int .i64 (q2z t r)), (12, .int .i64 r)], mms [(2, .cells [.nil, .nil]), (3, .cells [.own 1 [], .own 3 (q0d (q1u t r))]), (11, .arr 0 1 (q05 (qav t r)))]⟩)
  (fun r => r ≤ 16) (fun r => 16 - r) 0 (have hW := @q1b; q0h) (Nat.zero_le _) ?_
 intro r hr
 have g0 : (q05 (qav t r)).length = 16 := by rw [q0f, qbd t hr]
 have hsz := q9c t r
 unfold qrv
 by_cases hlt : r < 16
 ·have hrt : r < t.length := by rw [ht.1]; exact hlt
  have hq := ht.2 r
  have g1 := q7t (q6k hrt)
  have g2 := qro t hlt
  have g3 := qrn t hlt
  have hcall := ev_k134 (t.getD r []) (by omega)
  have hrl := qjr ht r
  have hcl := qan ht r
  have hcl2 : r * n ≤ 16 * n := Nat.mul_le_mul_right n hr
  have g4 := q0v (q66 t r)
  have hs1 := q7x t r
  change Ev _ _ _ (.ret (.tup [.int .i64 (q8y t r), .sl 2 (q07 (q66 t r))])) at hcall
  (have hF := (aI (aI @h16 @g0) (aI @g1 @g2)); refine q01 (k:=?_); clear hF)
  refine q00 [.sl 2 (q07 (t.getD r []))] (he := hcall) (k:=?_)
  (focus (have hF := (aI (aI @h16 (aI @g0 @g1)) (aI @g2 (aI @g3 @g4))); (repeat' (first | refine go1 (k:=?_) | with_reducible refine Ny.of ?_ ?_ | (refine Hyp.of ?_; intro hc; (try simp only [hc]); (try simp only [Bh] at hc)))); all_goals clear hF))
  all_goals
   refine Run.while (σ := Nat) (fun c => ⟨tms [(0, .sptr (q1w t)), (2, .ptr 2 0), (3, .ptr 3 0), (4, .os 11 0), (5, .int .i64 (q2z t (r + 1))), (6, .int .i64 r), (12, .int .i64 r), (32, .sl 2 (q07 (q66 t r))), (33, .int .i64 (q66 t r).length), (34, .int .i64 c)], mms [(2, .cells [.nil, .nil]), (3, .cells [.own 1 [], .own 3 (q0d (zbc t r c))]), (11, .arr 0 1 (q05 (qav t (r + 1))))]⟩)
    (fun c => c ≤ (q66 t r).length) (fun c => (q66 t r).length - c) 0 (have hW := (aI (aI @q1b @hs1) (aI @hc (aI @g3 @zba))); q0h) (Nat.zero_le _) ?_
   intro c hcc
   unfold qru
   by_cases hclt : c < (q66 t r).length
   ·obtain ⟨x, hx⟩ : ∃ x, (q66 t r)[c]? = some x := ⟨(q66 t r)[c], by simp [hclt]⟩
    have k1 : (q07 (q66 t r))[c]? = some (.agg [.int .i64 x.1, .int .i64 x.2]) := q3a hx
    have hnx := zbb hx
    have hcl3 := rowC_len t r c
    generalize zbc t r c = cl at hnx hcl3 ⊢
    have k2 := q1f cl
    (have hF := (aI (aI @g4 @k1) (aI @k2 @q84)); refine q01 (k:=?_); clear hF)
    (refine Fin.nextW (c + 1) ?_ (have hW := (aI @hnx @q1b); q0h); (try dsimp only))
    omega
   ·rw [show c = (q66 t r).length by omega, rowC_all]
    (have hF := @g4; refine q01 (k:=?_); clear hF)
    (refine Fin.nextW (r + 1) ?_ (have hW := @q1b; q0h); (try dsimp only))
    omega
 ·have hre : r = 16 := by omega
  subst hre
  have hv : qav t 16 = q2r t 16 := by simp [qav]
  rw [hv] at g0 ⊢
  have hll := q31 t 16
  have hlz : ((q2r t 16).take (q2z t 16)).length ≤ 16 := by rw [List.length_take]; omega
  have hres : q67 t = ⟨(q2r t 16).take (q2z t 16), q1u t 16⟩ := rfl
  rw [hres]
  have hz : ¬ (0 < (q2z t 16 : Int)) → (q2r t 16).take (q2z t 16) = [] := fun h => by rw [show q2z t 16 = 0 by omega]; rfl
  refine Run.wk (Wk.freeze (k := 3) (cs := [.own 1 [], .own 3 (q0d (q1u t 16))]) rfl) ?_
  refine Run.wk (s' := ⟨tms [(0, .sptr (q1w t)), (2, .ptr 2 0), (3, .ptr 3 0), (4, .os 11 0), (5, .int .i64 (q2z t 16)), (12, .int .i64 16)], mms [(2, .cells [.nil, .nil]), (3, .cells [.sl 1 [], .sl 3 (q0d (q1u t 16))]), (11, .arr 0 1 (q05 (q2r t 16)))]⟩) (have hW := @q1b; q0h) ?_
  (focus (have hF := (aI @g0 @q6n); (repeat' (first | refine go1 (k:=?_) | with_reducible refine Ny.of ?_ ?_ | (refine Hyp.of ?_; intro hc; (try simp only [hc]); (try simp only [Bh] at hc)))); all_goals clear hF))
  ·refine q00 [.sl 1 (q05 ((q2r t 16).take (q2z t 16)))] (he := ev_k135 _ (by omega)) (k:=?_)
   (have hF := @g0; refine q01 (k:=?_); clear hF)
   exact Fin.all rfl (by simp [q0j, AVal.stb, q02, q03, fzc, q5q]) rfl
  ·have := hz hc
   rw [this]
   exact Fin.all rfl (by simp [q0j, AVal.stb, q02, q03, fzc, q5q]) rfl

theorem qjq : ∀ {t t' : List Int}, t.Pairwise (fun x y => x < y) → t'.Pairwise (fun x y => x < y) → (∀ m, cnt t m % 2 = 1 ↔ cnt t' m % 2 = 1) → t = t'
 | [], [], _, _, _ => rfl
 | [], y :: t', _, h2, h => by
  have := (h y).2
  rw [List.pairwise_cons] at h2
  rw [q20, q42 fun x hx => h2.1 x hx, q75] at this
  simp at this
 | x :: t, [], h1, _, h => by
  have := (h x).1
  rw [List.pairwise_cons] at h1
  rw [q20, q42 fun y hy => h1.1 y hy, q75] at this
  simp at this
 | x :: t, y :: t', h1, h2, h => by
  rw [List.pairwise_cons] at h1 h2
  have hxy : x = y := by
   rcases Int.lt_trichotomy x y with hl | he | hl
   ·have := (h x).1
    rw [q20, q42 fun z hz => h1.1 z hz, q20, q42 (l := t') fun z hz => by have := h2.1 z hz; omega, if_pos (Int.le_refl _), if_neg (by omega)] at this
    exact absurd (this rfl) (by decide)
   ·exact he
   ·have := (h y).2
    rw [q20 y, q42 fun z hz => h2.1 z hz, q20, q42 (l := t) fun z hz => by have := h1.1 z hz; omega, if_pos (Int.le_refl _), if_neg (by omega)] at this
    exact absurd (this rfl) (by decide)
  subst hxy
  rw [qjq h1.2 h2.2 fun m => ?_]
  have := h m
  rw [q20, q20] at this
  split at this
  ·omega
  ·omega
theorem Turns.uniq {q : Int → Prop} {t t' : List Int} (h : Turns q t) (h' : Turns q t') : t = t' := qjq h.rise h'.rise fun m => by rw [← h.mem, ← h'.mem]
def q3u (c : List Rn) : List Int := c.flatMap fun r => [r.1, r.2 + 1]
theorem q4z (x : Rn) (c : List Rn) : q3u (x :: c) = x.1 :: (x.2 + 1) :: q3u c := rfl
theorem qic {x : Rn} {c : List Rn} (h : Can (x :: c)) : ∀ y ∈ q3u c, x.2 + 1 < y := by
 intro y hy
 simp only [q3u, List.mem_flatMap, List.mem_cons, List.not_mem_nil, or_false] at hy
 obtain ⟨r, hr, hy⟩ := hy
 have h1 := (Can.cons_iff.1 h).2.1 r hr
 have h2 := h.2 r (by simp [hr])
 unfold sepR at h1
 unfold okR at h2
 omega
theorem qc0 : ∀ {c : List Rn}, Can c → Turns (inR c) (q3u c)
 | [], _ => ⟨.nil, rfl, fun m => by simp [q3u, q75, q29]⟩
 | x :: c, h => by
  have ih := qc0 h.tail
  have ha := qic h
  have hx := (Can.cons_iff.1 h).1
  unfold okR at hx
  refine ⟨?_, ?_, fun m => ?_⟩
  ·rw [q4z, List.pairwise_cons, List.pairwise_cons]
   refine ⟨fun y hy => ?_, fun y hy => ha y hy, ih.rise⟩
   rcases List.mem_cons.1 hy with rfl | hy
   ·omega
   ·have := ha y hy; omega
  ·rw [q4z]
   have := ih.even
   simp only [List.length_cons]
   omega
  ·rw [q4z, q20, q20, q0u, ih.mem]
   by_cases h1 : x.2 + 1 ≤ m
   ·rw [if_pos h1, if_pos (by omega)]
    constructor
    ·rintro (h | h)
     ·omega
     ·omega
    ·intro h; exact .inr (by omega)
   ·rw [if_neg h1, q42 (l := q3u c) fun y hy => by have := ha y hy; omega]
    by_cases h2 : x.1 ≤ m
    ·rw [if_pos h2]
     exact ⟨fun _ => rfl, fun _ => .inl (by omega)⟩
    ·rw [if_neg h2]
     constructor
     ·rintro (h | h)
      ·omega
      ·omega
     ·intro h; omega
theorem qa4 (c : List Rn) : (q3u c).length = 2 * c.length := by
 induction c with
 | nil => rfl
 | cons x c ih => rw [q4z]; simp only [List.length_cons, ih]; omega
def q0o (l : List Rn) : List Int := q3u (q13 l)
theorem zao {l : List Rn} {t : List Int} (h : Turns (inR (q0t l)) t) : t = q0o l :=
 h.uniq ((qc0 (q1c l)).iff fun m => by rw [q2p, z7s])

def qyt : List SOp := [zO 4 (.assign (.const (.slice none 0 0)))]
instance : Live qyt := ⟨[0,1]⟩
def qys : List SOp := [zO 5 (.assign (.const (.slice none 0 0))),zO 6 (.assign (.const (.slice none 0 0)))]
instance : Live qys := ⟨[0,1]⟩
def qyr : List SOp := [zO 7 (.assign (.const (.int .i64 0)))]
instance : Live qyr := ⟨[0,1,5,6]⟩
def qyq : List SOp := [zM 14 7,zM 15 0,zO 16 (.call ⟨.builtin .len,#[.tmp 15],#[23]⟩),zO 17 (.binOp .lss 3 (.tmp 14) (.tmp 16) 3)]
instance : Live qyq := ⟨[0,1,5,6,7]⟩
def qyp : List SOp := [zM 20 0,zM 21 7,zI 22 23 20 21,zL 23 3 22,zO 24 (.call ⟨.builtin .max,#[.tmp 23,.const (.int .i64 1)],#[3,3]⟩),zM 25 1,zM 26 7,zI 27 23 25 26,zL 28 3 27,zO 29 (.call ⟨.builtin .min,#[.tmp 28,.const (.int .i64 1000000000)],#[3,3]⟩),zG 8 24,zG 9 29]
instance : Live qyp := ⟨[0,1,5,6,7]⟩
def qyo : List SOp := [zM 30 8,zM 31 9,zO 32 (.binOp .leq 3 (.tmp 30) (.tmp 31) 3)]
instance : Live qyo := ⟨[0,1,5,6,7,8,9]⟩
def qyn : List SOp := [zM 33 5,zM 34 8,zO 35 (.buildSlice 23 1 #[(0,.tmp 34)]),zO 36 (.call ⟨.builtin .append,#[.tmp 33,.tmp 35],#[23,23]⟩),zG 5 36]
instance : Live qyn := ⟨[0,1,5,6,7,8,9]⟩
def qym : List SOp := [zM 37 6,zM 38 9,zO 39 (.binOp .add 3 (.tmp 38) (.const (.int .i64 1)) 3),zO 40 (.buildSlice 23 1 #[(0,.tmp 39)]),zO 41 (.call ⟨.builtin .append,#[.tmp 37,.tmp 40],#[23,23]⟩),zG 6 41]
instance : Live qym := ⟨[0,1,5,6,7,9]⟩
def qyl : List SOp := [zM 18 7,zO 19 (.binOp .add 3 (.tmp 18) (.const (.int .i64 1)) 3),zG 7 19]
instance : Live qyl := ⟨[0,1,5,6,7]⟩
def qlt : List SOp := [zM 42 5,zO 43 (.call ⟨.value (.func 168),#[.tmp 42],#[23]⟩),zG 5 43]
instance : Live qlt := ⟨[5,6]⟩
def qls : List SOp := [zM 44 6,zO 45 (.call ⟨.value (.func 168),#[.tmp 44],#[23]⟩),zG 6 45]
instance : Live qls := ⟨[5,6]⟩
def qlr : List SOp := [zO 10 (.assign (.const (.slice none 0 0)))]
instance : Live qlr := ⟨[5,6]⟩
def qlq : List SOp := [zO 11 (.assign (.const (.int .i64 0))),zO 12 (.assign (.const (.int .i64 0)))]
instance : Live qlq := ⟨[5,6,10]⟩
def qlp : List SOp := [zO 13 (.assign (.const (.int .i64 0)))]
instance : Live qlp := ⟨[5,6,10,11,12]⟩
def qlo : List SOp := [zM 46 13,zM 47 5,zO 48 (.call ⟨.builtin .len,#[.tmp 47],#[23]⟩),zO 49 (.binOp .lss 3 (.tmp 46) (.tmp 48) 3),zM 50 49,⟨some 51,.move (.tmp 12),some ((some 50),false)⟩,⟨some 52,.move (.tmp 6),some ((some 50),false)⟩,⟨some 53,.call ⟨.builtin .len,#[.tmp 52],#[23]⟩,some ((some 50),false)⟩,⟨some 54,.binOp .lss 3 (.tmp 51) (.tmp 53) 3,some ((some 50),false)⟩,zO 55 (.pick (.tmp 50) (.const (.bool true)) (.tmp 54))]
instance : Live qlo := ⟨[5,6,10,11,12,13]⟩
def qln : List SOp := [zM 56 13,zM 57 5,zO 58 (.call ⟨.builtin .len,#[.tmp 57],#[23]⟩),zO 59 (.binOp .lss 3 (.tmp 56) (.tmp 58) 3),zM 60 59,⟨some 61,.move (.tmp 5),some ((some 60),true)⟩,⟨some 62,.move (.tmp 13),some ((some 60),true)⟩,⟨some 63,.indexAddr 23 (.tmp 61) (.tmp 62),some ((some 60),true)⟩,⟨some 64,.load 3 (.tmp 63),some ((some 60),true)⟩,⟨some 65,.move (.tmp 6),some ((some 60),true)⟩,⟨some 66,.move (.tmp 12),some ((some 60),true)⟩,⟨some 67,.indexAddr 23 (.tmp 65) (.tmp 66),some ((some 60),true)⟩,⟨some 68,.load 3 (.tmp 67),some ((some 60),true)⟩,⟨some 69,.binOp .leq 3 (.tmp 64) (.tmp 68) 3,some ((some 60),true)⟩,zO 70 (.pick (.tmp 60) (.tmp 69) (.const (.bool false)))]
instance : Live qln := ⟨[5,6,10,11,12,13]⟩
def qlm : List SOp := [zM 71 11,zO 72 (.binOp .eql 3 (.tmp 71) (.const (.int .i64 0)) 3)]
instance : Live qlm := ⟨[5,6,10,11,12,13]⟩
def qll : List SOp := [zM 73 10,zM 74 5,zM 75 13,zI 76 23 74 75,zL 77 3 76,zO 78 (.buildSlice 23 1 #[(0,.tmp 77)]),zO 79 (.call ⟨.builtin .append,#[.tmp 73,.tmp 78],#[23,23]⟩),zG 10 79]
instance : Live qll := ⟨[5,6,10,11,12,13]⟩
def qlk : List SOp := [zM 80 11,zO 81 (.binOp .add 3 (.tmp 80) (.const (.int .i64 1)) 3),zG 11 81]
instance : Live qlk := ⟨[5,6,10,11,12,13]⟩
def qlj : List SOp := [zM 82 13,zO 83 (.binOp .add 3 (.tmp 82) (.const (.int .i64 1)) 3),zG 13 83]
instance : Live qlj := ⟨[5,6,10,11,12,13]⟩
def qli : List SOp := [zM 84 11,zO 85 (.binOp .sub 3 (.tmp 84) (.const (.int .i64 1)) 3),zG 11 85]
instance : Live qli := ⟨[5,6,10,11,12,13]⟩
def qlh : List SOp := [zM 86 11,zO 87 (.binOp .eql 3 (.tmp 86) (.const (.int .i64 0)) 3)]
instance : Live qlh := ⟨[5,6,10,11,12,13]⟩
def qlg : List SOp := [zM 88 10,zM 89 6,zM 90 12,zI 91 23 89 90,zL 92 3 91,zO 93 (.buildSlice 23 1 #[(0,.tmp 92)]),zO 94 (.call ⟨.builtin .append,#[.tmp 88,.tmp 93],#[23,23]⟩),zG 10 94]
instance : Live qlg := ⟨[5,6,10,11,12,13]⟩
def qlf : List SOp := [zM 95 12,zO 96 (.binOp .add 3 (.tmp 95) (.const (.int .i64 1)) 3),zG 12 96]
instance : Live qlf := ⟨[5,6,10,11,12,13]⟩
def qle : List SOp := [zM 97 10,zG 4 97]
instance : Live qle := ⟨[10]⟩
def qis : SC :=
 (.seq (.seq (.ops false qyq) (.cond (.tmp 17) .skip (.exit 0))) (.seq (.block 1 (.seq (.ops true qyp) (.seq (.ops false qyo) (.cond (.tmp 32) (.seq (.ops false qyn) (.ops false qym)) .skip)))) (.ops false qyl)))
def qir : SC :=
 (.seq (.seq (.ops false qlo) (.cond (.tmp 55) .skip (.exit 2))) (.block 3 (.seq (.ops true qln) (.cond (.tmp 70) (.seq (.seq (.ops false qlm) (.cond (.tmp 72) (.ops false qll) .skip)) (.seq (.ops false qlk) (.ops false qlj))) (.seq (.ops false qli) (.seq (.seq (.ops false qlh) (.cond (.tmp 87) (.ops false qlg) .skip)) (.ops false qlf)))))))
def t_k153 : SC :=
 (.seq (.ops false qyt) (.seq (.ops false qys) (.seq (.seq (.ops false qyr) (.block 0 (.loop qis))) (.seq (.ops false qlt) (.seq (.ops false qls) (.seq (.ops false qlr) (.seq (.ops false qlq) (.seq (.seq (.ops false qlp) (.block 2 (.loop qir))) (.seq (.ops false qle) .ret)))))))))
theorem it_k153 : FnIs Tryz.prog 153 98 [.tmp 4] t_k153 := ⟨Tryz.f153, _, Tryz.func153, rfl, rfl, rfl, rfl, by kernel_rfl⟩

def los (l : List Rn) : List Int := l.map fun r => r.1
def his (l : List Rn) : List Int := l.map fun r => r.2
def qpr (l : List Rn) : List Int := l.map fun r => r.2 + 1
theorem los_at {l : List Rn} {i : Nat} {r : Rn} (h : l[i]? = some r) : (q05 (los l))[i]? = some (.int .i64 r.1) := by simp [q05, los, h, encI]
theorem his_at {l : List Rn} {i : Nat} {r : Rn} (h : l[i]? = some r) : (q05 (his l))[i]? = some (.int .i64 r.2) := by simp [q05, his, h, encI]
theorem qfp {l : List Rn} {i : Nat} {r : Rn} (h : l[i]? = some r) : q0t (l.take (i + 1)) = q0t (l.take i) ++ q0t [r] := by
 rw [List.take_add_one, h, q63]
 rfl
theorem zl7 {r : Rn} (h : max r.1 1 ≤ min r.2 1000000000) : q0t [r] = [(max r.1 1, min r.2 1000000000)] := by rw [q8a, if_pos (show (q4t r).1 ≤ (q4t r).2 from h)]; rfl
theorem z9s {r : Rn} (h : ¬ max r.1 1 ≤ min r.2 1000000000) : q0t [r] = [] := by rw [q8a, if_neg (show ¬ (q4t r).1 ≤ (q4t r).2 from h)]; rfl
theorem ev_k153 (l : List Rn) (hl : l.length ≤ 900000000) : Ev (En Tryz.prog rfl).P 153 [.sl 1 (q05 (los l)), .sl 1 (q05 (his l))] (.ret (.sl 1 (q05 (q0o l)))) := by
 refine Ev.of_body it_k153 (by simp) (Run.start ?_)
 unfold t_k153
 have e0 : (q05 (los l)).length = l.length := by simp [q05, los]
 have e1 : (q05 (his l)).length = l.length := by simp [q05, his]
 (have hF := @e0; refine q01 (k:=?_); clear hF)
 refine Run.wk (Wk.trans (Wk.own_nil 5 36 1 rfl rfl) (Wk.own_nil 6 41 1 rfl rfl)) ?_
 refine Run.while (σ := Nat) (fun i => ⟨tms [(0, .sl 1 (q05 (los l))), (1, .sl 1 (q05 (his l))), (5, .os 36 (q0t (l.take i)).length), (6, .os 41 (q0t (l.take i)).length), (7, .int .i64 i)], mms [(36, .arr (q0t (l.take i)).length 1 (q05 (los (q0t (l.take i))))), (41, .arr (q0t (l.take i)).length 1 (q05 (qpr (q0t (l.take i)))))]⟩)
  (fun i => i ≤ l.length) (fun i => l.length - i) 0 (have hW := True.intro; q0h) (Nat.zero_le _) ?_
 intro i hi
 have hcl := q9w (l.take i)
 have hcl2 : (l.take i).length ≤ l.length := by rw [List.length_take]; omega
 have e2 : (q05 (los (q0t (l.take i)))).length = (q0t (l.take i)).length := by simp [q05, los]
 have e3 : (q05 (qpr (q0t (l.take i)))).length = (q0t (l.take i)).length := by simp [q05, qpr]
 unfold qis
 by_cases hlt : i < l.length
 ·obtain ⟨r, hr⟩ : ∃ r, l[i]? = some r := ⟨l[i], by simp [hlt]⟩
  have e4 := los_at hr
  have e5 := his_at hr
  (focus (have hF := (aI (aI @e0 (aI @e1 @e2)) (aI (aI @e3 @e4) (aI @e5 @q3p))); (repeat' (first | refine go1 (k:=?_) | with_reducible refine Ny.of ?_ ?_ | (refine Hyp.of ?_; intro hc; (try simp only [hc]); (try simp only [Bh] at hc)))); all_goals clear hF))
  ·have hk := (qfp hr).trans (by rw [zl7 hc])
   (refine Fin.nextW (i + 1) ?_ (Wk.toL _ _ (by repeat (first | exact trivial | refine ⟨rfl, ?_⟩ | (refine ⟨by simp [↓q6t, ↓q3v, ↓q58, ↓NoM', hk, los, qpr], ?_⟩))) (by repeat (first | exact trivial | refine ⟨rfl, ?_⟩ | (refine ⟨by simp [↓q6t, ↓q3v, ↓q58, ↓NoM', hk, los, qpr], ?_⟩))) (by repeat (first | exact trivial | (refine ⟨?_, ?_⟩; focus (first | rfl | (apply q1d; simp only [q0j, AVal.stb, q02, q06, q0z, q03, q0r, q0b, q14, hk, los, qpr, Bool.and_true, Bool.true_and, Bool.and_self]; done))))) (by repeat (first | exact trivial | (refine ⟨?_, ?_⟩; focus (first | rfl | (apply qfv; simp only [q0j, AVal.stb, q02, q06, q0z, q03, q0r, q0b, q14, hk, los, qpr, Bool.and_true, Bool.true_and, Bool.and_self]; done) | exact q2n _ _ | exact qhm _ _ | exact qho _ _ | (apply q9x; simp only [q0j, AVal.stb, q02, q06, q0z, q03, q0r, q0b, q14, hk, los, qpr, Bool.and_true, Bool.true_and, Bool.and_self]; done) | (apply qhq; simp only [qhr, z7u, List.all_cons, List.all_nil, q0j, AVal.stb, q02, q06, q0z, q03, q0r, q0b, q14, hk, los, qpr, Bool.and_true, Bool.true_and, Bool.and_self]; done) | (simp [ABlk.no, AVal.noC, AVal.no, AVal.stb, q0j, q02, q06, q0z, q03, q0r, q0b, q14, hk, los, qpr]; done)))))); (try dsimp only))
   omega
  ·have hk := (qfp hr).trans (by rw [z9s hc, List.append_nil])
   (refine Fin.nextW (i + 1) ?_ (have hW := @hk; q0h); (try dsimp only))
   omega
 ·have hil : i = l.length := by omega
  subst hil
  rw [List.take_length] at *
  (have hF := (aI (aI @e0 @e1) (aI @e2 @e3)); refine q01 (k:=?_); clear hF)
  have hin := q9b (los (q0t l))
  have hout := q9b (qpr (q0t l))
  have hs : Sweep (q0t l) (q79 (los (q0t l))) (q79 (qpr (q0t l))) := Sweep.of l
  have hl1 : (los (q0t l)).length = (q0t l).length := by simp [los]
  have hl2 : (qpr (q0t l)).length = (q0t l).length := by simp [qpr]
  refine qsg (fun j => j == 36) [.sl 1 (q05 (los (q0t l)))] (he := zke _ (by omega)) (k:=?_)
  (have hF := (aI (aI @e0 @e1) (aI @e2 @e3)); refine q01 (k:=?_); clear hF)
  refine qsg (fun j => j == 41) [.sl 1 (q05 (qpr (q0t l)))] (he := zke _ (by omega)) (k:=?_)
  (have hF := (aI (aI @e0 @e1) (aI @e2 @e3)); refine q01 (k:=?_); clear hF)
  generalize q79 (los (q0t l)) = ins at *
  generalize q79 (qpr (q0t l)) = outs at *
  refine Run.wk (Wk.own_nil 10 79 1 rfl rfl) ?_
  refine Run.while (σ := Sw) (fun s => ⟨tms [(5, .sl 1 (q05 ins)), (6, .sl 1 (q05 outs)), (10, .os 79 s.t.length), (11, .int .i64 s.deep), (12, .int .i64 s.j), (13, .int .i64 s.i)], mms [(79, .arr s.t.length 1 (q05 s.t))]⟩)
   (fun s => SwI ins outs s ∧ s.j ≤ outs.length ∧ s.t.length ≤ s.i + s.j) (fun s => (ins.length - s.i) + (outs.length - s.j)) ⟨[], 0, 0, 0⟩ (have hW := True.intro; q0h) ⟨SwI.start, Nat.zero_le _, Nat.zero_le _⟩ ?_
  rintro ⟨t, deep, i, j⟩ ⟨hI, hj, ht⟩
  have hd := hI.d
  have hij := hI.ij
  have hii := hI.i
  have e4 := q0f ins
  have e5 := q0f outs
  have e6 := q0f t
  dsimp only at hd hij hii hj ht ⊢
  have hlen := hs.len
  have stepIn := fun h => hI.stepIn hs.len (Srt.of hs.si) (Srt.of hs.so) hs.lt h
  have stepOut := fun h h' => hI.stepOut hs.len (Srt.of hs.si) (Srt.of hs.so) hs.lt h h'
  unfold swIn at stepIn
  unfold swOut at stepOut
  unfold qg0 at stepIn stepOut
  dsimp only at stepIn stepOut
  unfold qir
  (focus (have hF := (aI (aI @e4 @e5) (aI @e6 (aI @q9s @q3p))); (repeat' (first | refine go1 (k:=?_) | with_reducible refine Ny.of ?_ ?_ | (refine Hyp.of ?_; intro hc; (try simp only [hc]); (try simp only [Bh] at hc)))); all_goals clear hF))
  ·have q := stepIn ⟨by omega, by assumption⟩
   rw [if_pos hc] at q
   (refine Fin.nextW (⟨t ++ [ins.getD i 0], deep + 1, i + 1, j⟩) ?_ (have hW := True.intro; q0h); (try dsimp only))
   exact ⟨⟨q, hj, (by first | omega | (simp only [List.length_append, List.length_cons, List.length_nil]; omega))⟩, (by first | omega | (simp only [List.length_append, List.length_cons, List.length_nil]; omega))⟩
  ·have q := stepIn ⟨by omega, by assumption⟩
   rw [if_neg hc] at q
   (refine Fin.nextW (⟨t, deep + 1, i + 1, j⟩) ?_ (have hW := True.intro; q0h); (try dsimp only))
   exact ⟨⟨q, hj, (by first | omega | (simp only [List.length_append, List.length_cons, List.length_nil]; omega))⟩, (by first | omega | (simp only [List.length_append, List.length_cons, List.length_nil]; omega))⟩
  ·have q := (stepOut (by omega) (by omega)).1
   rw [if_pos hc] at q
   (refine Fin.nextW (⟨t ++ [outs.getD j 0], deep - 1, i, j + 1⟩) ?_ (have hW := True.intro; q0h); (try dsimp only))
   exact ⟨⟨q, (by first | omega | (simp only [List.length_append, List.length_cons, List.length_nil]; omega)), (by first | omega | (simp only [List.length_append, List.length_cons, List.length_nil]; omega))⟩, (by first | omega | (simp only [List.length_append, List.length_cons, List.length_nil]; omega))⟩
  ·have q := (stepOut (by omega) (by omega)).1
   rw [if_neg hc] at q
   (refine Fin.nextW (⟨t, deep - 1, i, j + 1⟩) ?_ (have hW := True.intro; q0h); (try dsimp only))
   exact ⟨⟨q, (by first | omega | (simp only [List.length_append, List.length_cons, List.length_nil]; omega)), (by first | omega | (simp only [List.length_append, List.length_cons, List.length_nil]; omega))⟩, (by first | omega | (simp only [List.length_append, List.length_cons, List.length_nil]; omega))⟩
  ·have q := (stepOut (by omega) (by omega)).1
   rw [if_pos hc] at q
   (refine Fin.nextW (⟨t ++ [outs.getD j 0], deep - 1, i, j + 1⟩) ?_ (have hW := True.intro; q0h); (try dsimp only))
   exact ⟨⟨q, (by first | omega | (simp only [List.length_append, List.length_cons, List.length_nil]; omega)), (by first | omega | (simp only [List.length_append, List.length_cons, List.length_nil]; omega))⟩, (by first | omega | (simp only [List.length_append, List.length_cons, List.length_nil]; omega))⟩
  ·have q := (stepOut (by omega) (by omega)).1
   rw [if_neg hc] at q
   (refine Fin.nextW (⟨t, deep - 1, i, j + 1⟩) ?_ (have hW := True.intro; q0h); (try dsimp only))
   exact ⟨⟨q, (by first | omega | (simp only [List.length_append, List.length_cons, List.length_nil]; omega)), (by first | omega | (simp only [List.length_append, List.length_cons, List.length_nil]; omega))⟩, (by first | omega | (simp only [List.length_append, List.length_cons, List.length_nil]; omega))⟩
  ·have hq := hs.turns hI (show i = ins.length by omega) (show j = ins.length by omega)
   have hqt : t = q0o l := zao hq.1
   rw [← hqt]
   exact qg8 (.sl 1 (q05 t))

def z27 : List SOp := [zO 1 (.box 26 (.tmp 0)),zO 2 (.alloc 168)]
instance : Live z27 := ⟨[0]⟩
def z26 : List SOp := [zL 3 26 1,zO 4 (.buildSlice 116 1 #[(0,.tmp 3)]),zO 5 (.call ⟨.value (.func 129),#[.tmp 4],#[116]⟩),⟨none,.store 168 (.tmp 2) (.tmp 5),none⟩]
instance : Live z26 := ⟨[1,2]⟩
def t_k127 : SC :=
 (.seq (.ops false z27) (.seq (.ops false z26) .ret))
theorem it_k127 : FnIs Tryz.prog 127 6 [.cell 2 168] t_k127 := ⟨Tryz.f127, _, Tryz.func127, rfl, rfl, rfl, rfl, by kernel_rfl⟩

def q0i (t : List (List Int)) : List AVal := t.map fun l => .sl 1 (q05 l)
theorem q2k (t : List (List Int)) : q0j (q0i t) = true := by
 refine qc6 fun x hx => ?_
 obtain ⟨l, _, rfl⟩ := List.mem_map.1 hx
 exact q02 l
theorem q4b (t : List (List Int)) : (q0i t).all AVal.one = true := by
 rw [List.all_eq_true]
 intro x hx
 obtain ⟨l, _, rfl⟩ := List.mem_map.1 hx
 rfl
theorem qdu (M : Mem) (t : List (List Int)) : (q0i t).map (fzc q5q M) = q0i t := by
 simp [q0i, fzc]
theorem z9j (p : Pst) (t : List (List Int)) (ht : t.length = 16) (hM : Ev (En Tryz.prog rfl).P 129 [.sl 2 (q1q [p])] (.ret (.agg (q0i t)))) : Ev (En Tryz.prog rfl).P 127 [q0g p] (.ret (.agg (q0i t))) := by
 refine Ev.of_body it_k127 (by simp) (Run.start ?_)
 have hpx : q0g p = .agg [.sl 1 (q05 p.vec), .sl 3 (q0d p.cloud)] := rfl
 have e0 : (q0i t).length = 16 := by simp [q0i, ht]
 have e1 := q4b t
 unfold t_k127
 rw [hpx]
 (have hF := True.intro; refine q1j (k:=?_); clear hF)
 refine q2t (l := [.sl 2 (q1q [p])]) rfl rfl (by simp [q0j, AVal.stb, q0b]) hM ?_
 (have hF := (aI @e0 @e1); refine q1j (k:=?_); clear hF)
 refine Fin.all (xs := [.agg (q0i t)]) ?_ (by simp [q0j, AVal.stb, q2k]) rfl
 have htk : (q0i t).take 16 = q0i t := List.take_of_length_le (by omega)
 simp [q54, q8k, qba, z89, TD.isAgg, upd, tms, mms, e0, htk, qdu]

def z1u : List SOp := [zO 2 (.alloc 168)]
instance : Live z1u := ⟨[0]⟩
def z1t : List SOp := [zO 3 (.alloc 166),zO 4 (.alloc 166)]
instance : Live z1t := ⟨[0,2]⟩
def z1s : List SOp := [zO 5 (.assign (.const (.int .i64 0)))]
instance : Live z1s := ⟨[0,2,3,4]⟩
def z1r : List SOp := [zM 11 5,zM 12 0,zO 13 (.call ⟨.builtin .len,#[.tmp 12],#[116]⟩),zO 14 (.binOp .lss 3 (.tmp 11) (.tmp 13) 3)]
instance : Live z1r := ⟨[0,2,3,4,5]⟩
def z1q : List SOp := [zO 6 (.assign (.const (.int .i64 0)))]
instance : Live z1q := ⟨[0,2,3,4,5]⟩
def z1p : List SOp := [zM 17 6,zM 18 0,zM 19 5,zI 20 116 18 19,zF 21 26 20 0,zL 22 23 21,zO 23 (.call ⟨.builtin .len,#[.tmp 22],#[23]⟩),zO 24 (.binOp .lss 3 (.tmp 17) (.tmp 23) 3),zM 25 24,⟨some 26,.move (.tmp 6),some ((some 25),true)⟩,⟨some 27,.binOp .lss 3 (.tmp 26) (.const (.int .i64 16)) 3,some ((some 25),true)⟩,zO 28 (.pick (.tmp 25) (.tmp 27) (.const (.bool false)))]
instance : Live z1p := ⟨[0,2,3,4,5,6]⟩
def z1o : List SOp := [zM 31 6,zM 32 6,zI 33 166 3 32,zL 34 23 33,zO 35 (.buildSlice 23 1 #[(0,.const (.int .i64 1))]),zO 36 (.call ⟨.builtin .append,#[.tmp 34,.tmp 35],#[23,23]⟩),zI 37 166 3 31,⟨none,.store 23 (.tmp 37) (.tmp 36),none⟩]
instance : Live z1o := ⟨[0,2,3,4,5,6]⟩
def qgn : List SOp := [zM 38 6,zM 39 6,zI 40 166 4 39,zL 41 23 40,zM 42 0,zM 43 5,zI 44 116 42 43,zF 45 26 44 0,zL 46 23 45,zM 47 6,zI 48 23 46 47,zL 49 3 48,zO 50 (.buildSlice 23 1 #[(0,.tmp 49)]),zO 51 (.call ⟨.builtin .append,#[.tmp 41,.tmp 50],#[23,23]⟩),zI 52 166 4 38,⟨none,.store 23 (.tmp 52) (.tmp 51),none⟩]
instance : Live qgn := ⟨[0,2,3,4,5,6]⟩
instance : Rd qgn := ⟨fun j => j == 0⟩
def z1n : List SOp := [zM 29 6,zO 30 (.binOp .add 3 (.tmp 29) (.const (.int .i64 1)) 3),zG 6 30]
instance : Live z1n := ⟨[0,2,3,4,5,6]⟩
def qmn : List SOp := [zO 7 (.assign (.const (.int .i64 0)))]
instance : Live qmn := ⟨[0,2,3,4,5]⟩
def qmm : List SOp := [zM 53 7,zM 54 0,zM 55 5,zI 56 116 54 55,zF 57 26 56 1,zL 58 24 57,zO 59 (.call ⟨.builtin .len,#[.tmp 58],#[24]⟩),zO 60 (.binOp .lss 3 (.tmp 53) (.tmp 59) 3)]
instance : Live qmm := ⟨[0,2,3,4,5,7]⟩
def qml : List SOp := [zM 63 0,zM 64 5,zI 65 116 63 64,zF 66 26 65 1,zL 67 24 66,zM 68 7,zI 69 24 67 68,zL 70 127 69,zO 8 (.alloc 127),⟨none,.store 127 (.tmp 8) (.tmp 70),none⟩]
instance : Live qml := ⟨[0,2,3,4,5,7]⟩
def qmk : List SOp := [zF 71 127 8 0,zL 72 3 71,zO 73 (.binOp .geq 3 (.tmp 72) (.const (.int .i64 0)) 3),zM 74 73,⟨some 75,.fieldAddr 127 (.tmp 8) 0,some ((some 74),true)⟩,⟨some 76,.load 3 (.tmp 75),some ((some 74),true)⟩,⟨some 77,.binOp .lss 3 (.tmp 76) (.const (.int .i64 16)) 3,some ((some 74),true)⟩,zO 78 (.pick (.tmp 74) (.tmp 77) (.const (.bool false)))]
instance : Live qmk := ⟨[0,2,3,4,5,7,8]⟩
def qcq : List SOp := [zF 79 127 8 0,zL 80 3 79,zF 81 127 8 0,zL 82 3 81,zI 83 166 3 82,zL 84 23 83,zF 85 127 8 1,zL 86 3 85,zO 87 (.buildSlice 23 1 #[(0,.tmp 86)]),zO 88 (.call ⟨.builtin .append,#[.tmp 84,.tmp 87],#[23,23]⟩),zI 89 166 3 80,⟨none,.store 23 (.tmp 89) (.tmp 88),none⟩]
instance : Live qcq := ⟨[0,2,3,4,5,7,8]⟩
instance : Rd qcq := ⟨fun j => j == 8⟩
def qcp : List SOp := [zF 90 127 8 0,zL 91 3 90,zF 92 127 8 0,zL 93 3 92,zI 94 166 4 93,zL 95 23 94,zF 96 127 8 2,zL 97 3 96,zO 98 (.buildSlice 23 1 #[(0,.tmp 97)]),zO 99 (.call ⟨.builtin .append,#[.tmp 95,.tmp 98],#[23,23]⟩),zI 100 166 4 91,⟨none,.store 23 (.tmp 100) (.tmp 99),none⟩]
instance : Live qcp := ⟨[0,2,3,4,5,7,8]⟩
instance : Rd qcp := ⟨fun j => j == 8⟩
def qmj : List SOp := [zM 61 7,zO 62 (.binOp .add 3 (.tmp 61) (.const (.int .i64 1)) 3),zG 7 62]
instance : Live qmj := ⟨[0,2,3,4,5,7]⟩
def qmi : List SOp := [zM 15 5,zO 16 (.binOp .add 3 (.tmp 15) (.const (.int .i64 1)) 3),zG 5 16]
instance : Live qmi := ⟨[0,2,3,4,5]⟩
def qmh : List SOp := [zO 9 (.alloc 168)]
instance : Live qmh := ⟨[2,3,4]⟩
def qmg : List SOp := [zO 10 (.assign (.const (.int .i64 0)))]
instance : Live qmg := ⟨[2,3,4,9]⟩
def qmf : List SOp := [zM 101 10,zO 102 (.binOp .lss 3 (.tmp 101) (.const (.int .i64 16)) 3)]
instance : Live qmf := ⟨[2,3,4,9,10]⟩
def qme : List SOp := [zM 105 10,zM 106 10,zI 107 166 3 106,zL 108 23 107,zM 109 10,zI 110 166 4 109,zL 111 23 110,zO 112 (.call ⟨.value (.func 153),#[.tmp 108,.tmp 111],#[23,23]⟩),zF 113 168 9 0,zI 114 166 113 105,⟨none,.store 23 (.tmp 114) (.tmp 112),none⟩]
instance : Live qme := ⟨[2,3,4,9,10]⟩
def qmd : List SOp := [zM 103 10,zO 104 (.binOp .add 3 (.tmp 103) (.const (.int .i64 1)) 3),zG 10 104]
instance : Live qmd := ⟨[2,3,4,9,10]⟩
def qmc : List SOp := [zL 115 168 9,⟨none,.store 168 (.tmp 2) (.tmp 115),none⟩]
instance : Live qmc := ⟨[2,9]⟩
def qj1 : SC :=
 (.seq (.seq (.ops false z1p) (.cond (.tmp 28) .skip (.exit 2))) (.seq (.block 3 (.seq (.ops false z1o) (.opsW [41] qgn))) (.ops false z1n)))
def qj0 : SC :=
 (.seq (.seq (.ops false qmm) (.cond (.tmp 60) .skip (.exit 4))) (.seq (.block 5 (.seq (.ops false qml) (.seq (.ops false qmk) (.cond (.tmp 78) (.seq (.opsW [84] qcq) (.opsW [95] qcp)) .skip)))) (.ops false qmj)))
def qj2 : SC :=
 (.seq (.seq (.ops false z1r) (.cond (.tmp 14) .skip (.exit 0))) (.seq (.block 1 (.seq (.seq (.ops false z1q) (.block 2 (.loop qj1))) (.seq (.ops false qmn) (.block 4 (.loop qj0))))) (.ops false qmi)))
def qiz : SC :=
 (.seq (.seq (.ops false qmf) (.cond (.tmp 102) .skip (.exit 6))) (.seq (.block 7 (.ops true qme)) (.ops false qmd)))
def t_k129 : SC :=
 (.seq (.ops false z1u) (.seq (.ops false z1t) (.seq (.seq (.ops false z1s) (.block 0 (.loop qj2))) (.seq (.ops false qmh) (.seq (.seq (.ops false qmg) (.block 6 (.loop qiz))) (.seq (.ops false qmc) .ret))))))
theorem it_k129 : FnIs Tryz.prog 129 116 [.cell 2 168] t_k129 := ⟨Tryz.f129, _, Tryz.func129, rfl, rfl, rfl, rfl, by kernel_rfl⟩

def q7r (t : Tab) : List AVal := t.map fun l => .own 1 (q05 (los l))
def q7s (t : Tab) : List AVal := t.map fun l => .own 1 (q05 (his l))
theorem qp1 (t : Tab) : (q7r t).length = t.length := by simp [q7r]
theorem qp4 (t : Tab) : (q7s t).length = t.length := by simp [q7s]
theorem qp2 {t : Tab} {r : Nat} (h : r < t.length) : (q7r t)[r]? = some (.own 1 (q05 (los (t.getD r [])))) := by simp [q7r, h]
theorem qp5 {t : Tab} {r : Nat} (h : r < t.length) : (q7s t)[r]? = some (.own 1 (q05 (his (t.getD r [])))) := by simp [q7s, h]
theorem qfl {t : Tab} {r : Nat} (h : r < t.length) : ((q7r t).set r .hole)[r]? = some .hole := by simp [q7r, h]
theorem qfm {t : Tab} {r : Nat} (h : r < t.length) : ((q7s t).set r .hole)[r]? = some .hole := by simp [q7s, h]
theorem qp3 {t : Tab} {r : Nat} (h : r < t.length) (x : Rn) : ((q7r t).set r .hole).set r (.own 1 (q05 (los (t.getD r []) ++ [x.1]))) = q7r (q6q t r x) := by
 rw [List.set_set]
 simp [q7r, q6q, los, List.map_set]
theorem qp6 {t : Tab} {r : Nat} (h : r < t.length) (x : Rn) : ((q7s t).set r .hole).set r (.own 1 (q05 (his (t.getD r []) ++ [x.2]))) = q7s (q6q t r x) := by
 rw [List.set_set]
 simp [q7s, q6q, his, List.map_set]
theorem own_no (K : Nat → Bool) (t : Tab) (f : List Rn → List Int) : (ABlk.cells (t.map fun l => .own 1 (q05 (f l)))).no K = true := by
 simp only [ABlk.no, List.all_eq_true]
 intro x hx
 obtain ⟨l, _, rfl⟩ := List.mem_map.1 hx
 simp only [AVal.noC, List.all_eq_true]
 intro y hy
 exact q1d (q4l (q02 _) y hy)
theorem qhm (K : Nat → Bool) (t : Tab) : (ABlk.cells (q7r t)).no K = true := own_no K t los
theorem qho (K : Nat → Bool) (t : Tab) : (ABlk.cells (q7s t)).no K = true := own_no K t his
theorem zj4 (l : List Rn) : (q05 (los l)).length = l.length := by simp [q05, los]
theorem zjl (l : List Rn) : (q05 (his l)).length = l.length := by simp [q05, his]
def q6l (f : List Rn → List Int) (t : Tab) : List AVal := t.map fun l => .sl 1 (q05 (f l))
theorem qfi (f : List Rn → List Int) (t : Tab) : q0j (q6l f t) = true := q4e fun l => q02 _
theorem qfj (f : List Rn → List Int) {t : Tab} {r : Nat} (h : r < t.length) : (q6l f t)[r]? = some (.sl 1 (q05 (f (t.getD r [])))) := by simp [q6l, h]
theorem zkr (t : Tab) : (q7r t).map frz = q6l los t := by simp [q7r, q6l, frz]
theorem zkw (t : Tab) : (q7s t).map frz = q6l his t := by simp [q7s, q6l, frz]
def q24 (u : Tab) (r : Nat) : List AVal := ((u.take r).map fun l => .sl 1 (q05 (q0o l))) ++ List.replicate (16 - r) .nil
theorem q6v (u : Tab) (r : Nat) : q0j (q24 u r) = true := by
 unfold q24
 rw [qq4, q4e (f := fun l => AVal.sl 1 (q05 (q0o l))) fun l => q02 _]
 simp only [Bool.true_and]
 exact qc6 fun x hx => by rw [(List.mem_replicate.1 hx).2]; rfl
theorem qcb (u : Tab) (h : u.length = 16) {r : Nat} (hr : r ≤ 16) : (q24 u r).length = 16 := by
 simp [q24]
 omega
theorem qca (u : Tab) (h : u.length = 16) {r : Nat} (hr : r < 16) : (q24 u r).set r (.sl 1 (q05 (q0o (u.getD r [])))) = q24 u (r + 1) := by
 have hru : r < u.length := by omega
 have hl : ((u.take r).map fun l => AVal.sl 1 (q05 (q0o l))).length = r := by simp; omega
 unfold q24
 rw [List.set_append_right _ _ (by omega), hl, Nat.sub_self, show 16 - r = (16 - (r + 1)) + 1 by omega, List.replicate_succ, List.set_cons_zero]
 have e : u.take (r + 1) = u.take r ++ [u.getD r []] := by rw [List.take_add_one]; simp [hru]
 rw [e, List.map_append, List.append_assoc]
 rfl
theorem qcc (u : Tab) (h : u.length = 16) : q24 u 16 = q0i (u.map q0o) := by
 unfold q24
 rw [List.take_of_length_le (by omega)]
 simp [q0i]
def q7k (ps : List Pst) : List (List Int) := (q0l ps).map q0o
theorem zii (v : List Int) (u : Tab) (i : Nat) : q6q u i (1, q1n v i) = q3l v u i := rfl
theorem ev_k129 (ps : List Pst) (hl : ps.length ≤ 1000000000) (hw : (ps.map wt).sum ≤ 800000000) : Ev (En Tryz.prog rfl).P 129 [.sl 2 (q1q ps)] (.ret (.agg (q0i (q7k ps)))) := by
 refine Ev.of_body it_k129 (by simp) (Run.start ?_)
 unfold t_k129
 have e0 : (q1q ps).length = ps.length := q9r _
 (have hF := @e0; refine q01 (k:=?_); clear hF)
 have own0 : ∀ (f : List Rn → List Int), f [] = [] → ∀ (i : Nat) (x y : AVal), (List.replicate 16 AVal.nil)[i]? = some x → (q6r.map fun l => AVal.own 1 (q05 (f l)))[i]? = some y → y = x ∨ (x = .nil ∧ ∃ sz, y = .own sz []) := by
  intro f hf i x y hx hy
  rw [List.getElem?_replicate] at hx
  split at hx
  ·rename_i h16
   cases hx
   refine .inr ⟨rfl, 1, ?_⟩
   simp only [q6r, List.map_replicate, List.getElem?_replicate, h16, if_true, hf] at hy
   exact (Option.some.inj hy).symm
  ·cases hx
 refine Run.wk (Wk.trans (Wk.own_cells (k := 3) (cs' := q7r q6r) rfl rfl (own0 los rfl)) (Wk.own_cells (k := 4) (cs' := q7s q6r) rfl rfl (own0 his rfl))) ?_
 refine Run.while (σ := Nat) (fun i => ⟨tms [(0, .sl 2 (q1q ps)), (2, .ptr 2 0), (3, .ptr 3 0), (4, .ptr 4 0), (5, .int .i64 i)], mms [(2, .cells (List.replicate 16 .nil)), (3, .cells (q7r ((ps.take i).foldl q1k q6r))), (4, .cells (q7s ((ps.take i).foldl q1k q6r)))]⟩)
  (fun i => i ≤ ps.length) (fun i => ps.length - i) 0 (have hW := True.intro; q0h) (Nat.zero_le _) ?_
 intro i hi
 unfold qj2
 by_cases hlt : i < ps.length
 ·obtain ⟨p, hp⟩ : ∃ p, ps[i]? = some p := ⟨ps[i], by simp [hlt]⟩
  have hq0 := TabLe.all qa5 (ps.take i)
  have hnext := q32 q1k q6r ps hp
  have hsum : ((ps.take i).map wt).sum + wt p ≤ (ps.map wt).sum := by
   have : ((ps.take (i + 1)).map wt).sum ≤ (ps.map wt).sum := by rw [List.map_take]; exact q8r _
   rw [List.take_add_one, hp] at this
   simpa using this
  generalize (ps.take i).foldl q1k q6r = u0 at hq0 hnext ⊢
  generalize ((ps.take i).map wt).sum = m at hq0 hsum
  have hwt : wt p = p.vec.length + p.cloud.length := rfl
  have e1 : (q1q ps)[i]? = some (.agg [.sl 1 (q05 p.vec), .sl 3 (q0d p.cloud)]) := qdv hp
  have e2 : (q05 p.vec).length = p.vec.length := q0f _
  have e3 : (q0d p.cloud).length = p.cloud.length := q1f _
  (have hF := (aI (aI @e0 @e1) (aI @e2 @e3)); refine q01 (k:=?_); clear hF)
  refine Run.while (σ := Nat) (fun j => ⟨tms [(0, .sl 2 (q1q ps)), (2, .ptr 2 0), (3, .ptr 3 0), (4, .ptr 4 0), (5, .int .i64 i), (6, .int .i64 j)], mms [(2, .cells (List.replicate 16 .nil)), (3, .cells (q7r ((List.range j).foldl (q3l p.vec) u0))), (4, .cells (q7s ((List.range j).foldl (q3l p.vec) u0)))]⟩)
   (fun j => j ≤ min p.vec.length 16) (fun j => 16 - j) 0 (have hW := True.intro; q0h) (Nat.zero_le _) ?_
  intro j hj
  unfold qj1
  by_cases hjl : j < min p.vec.length 16
  ·have hnx := q7y (v := p.vec) (t := u0) j
   obtain ⟨q1, q2⟩ := TabLe.range (v := p.vec) hq0 j
   generalize (List.range j).foldl (q3l p.vec) u0 = u at q1 q2 hnx ⊢
   have hju : j < u.length := by omega
   have g1 := qp1 u
   have g2 := qp4 u
   have g3 := qp2 hju
   have g4 := qp5 hju
   have g5 := qfl hju
   have g6 := qfm hju
   have g7 := qp3 hju (1, q1n p.vec j)
   have g8 := qp6 hju (1, q1n p.vec j)
   dsimp only at g7 g8
   rw [zii, ← hnx] at g7 g8
   have hq := q2 j
   have g9 := zj4 (u.getD j [])
   have g10 := zjl (u.getD j [])
   have g11 : (q05 p.vec)[j]? = some (.int .i64 (q1n p.vec j)) := q0w (by simp [q1n, show j < p.vec.length by omega])
   (have hF := (aI (aI (aI (aI @e0 @e1) (aI @e2 @e3)) (aI (aI @q1 @g1) (aI @g2 (aI @g3 @g4)))) (aI (aI (aI @g5 @g6) (aI @g7 @g8)) (aI (aI @g9 @g10) (aI @g11 (aI @q3p @List.length_set.{0}))))); refine q01 (k:=?_); clear hF)
   ((with_reducible apply toW); refine stW (fun j => false) (k:=?_))
   (have hF := (aI (aI (aI (aI @e0 @e1) (aI @e2 @e3)) (aI (aI @q1 @g1) (aI @g2 (aI @g3 @g4)))) (aI (aI (aI @g5 @g6) (aI @g7 @g8)) (aI (aI @g9 @g10) (aI @g11 (aI @q3p @List.length_set.{0}))))); refine q01 (k:=?_); clear hF)
   (refine Fin.nextW (j + 1) ?_ (have hW := True.intro; q0h); (try dsimp only))
   omega
  ·have hjm : j = min p.vec.length 16 := by omega
   have hav : (List.range j).foldl (q3l p.vec) u0 = q5l p.vec u0 := by rw [hjm]; rfl
   rw [hav]
   have hqv : TabLe (q5l p.vec u0) (0 + m + min p.vec.length 16) := TabLe.range hq0 _
   have hnext' : (ps.take (i + 1)).foldl q1k q6r = q4k p.cloud (q5l p.vec u0) := hnext
   generalize q5l p.vec u0 = u1 at hqv hnext' ⊢
   clear hav
   have hguard : ¬ (j < p.vec.length ∧ j < 16) := by omega
   rcases Nat.lt_or_ge j p.vec.length with hjv | hjv
   all_goals
    clear hguard
    (have hF := (aI (aI @e0 @e1) (aI @e2 @e3)); refine q01 (k:=?_); clear hF)
    refine Run.while (σ := Nat) (fun c => ⟨tms [(0, .sl 2 (q1q ps)), (2, .ptr 2 0), (3, .ptr 3 0), (4, .ptr 4 0), (5, .int .i64 i), (7, .int .i64 c)], mms [(2, .cells (List.replicate 16 .nil)), (3, .cells (q7r ((p.cloud.take c).foldl putSn u1))), (4, .cells (q7s ((p.cloud.take c).foldl putSn u1)))]⟩)
     (fun c => c ≤ p.cloud.length) (fun c => p.cloud.length - c) 0 (have hW := True.intro; q0h) (Nat.zero_le _) ?_
    intro c hc
    unfold qj0
    by_cases hcl : c < p.cloud.length
    ·obtain ⟨s, hs⟩ : ∃ s, p.cloud[c]? = some s := ⟨p.cloud[c], by simp [hcl]⟩
     have hnx := q32 putSn u1 p.cloud hs
     obtain ⟨q1, q2⟩ := TabLe.cloud hqv (p.cloud.take c)
     have hcl2 : (p.cloud.take c).length ≤ p.cloud.length := by rw [List.length_take]; omega
     generalize (p.cloud.take c).foldl putSn u1 = u at q1 q2 hnx ⊢
     have g0 : (q0d p.cloud)[c]? = some (.agg [.int .i64 s.1, .int .i64 s.2.1, .int .i64 s.2.2]) := q2e hs
     have g1 := qp1 u
     have g2 := qp4 u
     by_cases hin : 0 ≤ s.1 ∧ s.1 < 16
     ·rw [z6r hin] at hnx
      obtain ⟨r, hr⟩ : ∃ r : Nat, s.1 = r := ⟨s.1.toNat, by omega⟩
      rw [hr, Int.toNat_natCast] at hnx
      have hru : r < u.length := by omega
      have g3 := qp2 hru
      have g4 := qp5 hru
      have g5 := qfl hru
      have g6 := qfm hru
      have g7 := qp3 hru s.2
      have g8 := qp6 hru s.2
      rw [← hnx] at g7 g8
      have hq := q2 r
      have g9 := zj4 (u.getD r [])
      have g10 := zjl (u.getD r [])
      (have hF := (aI (aI (aI @e0 @e1) (aI @e2 @e3)) (aI (aI @hr @q1) (aI @g0 (aI @g1 @g2)))); refine q01 (k:=?_); clear hF)
      ((with_reducible apply toW); refine stW (fun j => j == 8) (k:=?_))
      (have hF := (aI (aI (aI (aI @e0 @e1) (aI @e2 @e3)) (aI (aI @hr @q1) (aI @g0 (aI @g1 @g2)))) (aI (aI (aI @g3 @g4) (aI @g5 (aI @g6 @g7))) (aI (aI @g8 @g9) (aI @g10 (aI @q3p @List.length_set.{0}))))); refine q01 (k:=?_); clear hF)
      ((with_reducible apply toW); refine stW (fun j => j == 8) (k:=?_))
      (have hF := (aI (aI (aI (aI @e0 @e1) (aI @e2 @e3)) (aI (aI @hr @q1) (aI @g0 (aI @g1 @g2)))) (aI (aI (aI @g3 @g4) (aI @g5 (aI @g6 @g7))) (aI (aI @g8 @g9) (aI @g10 (aI @q3p @List.length_set.{0}))))); refine q01 (k:=?_); clear hF)
      (refine Fin.nextW (c + 1) ?_ (have hW := True.intro; q0h); (try dsimp only))
      omega
     ·rw [qct hin] at hnx
      by_cases hin1 : 0 ≤ s.1
      ·have hin2 : ¬ s.1 < 16 := fun h => hin ⟨hin1, h⟩
       (have hF := (aI (aI (aI @e0 @e1) (aI @e2 @e3)) (aI (aI @q1 @g0) (aI @g1 @g2))); refine q01 (k:=?_); clear hF)
       (refine Fin.nextW (c + 1) ?_ (have hW := @hnx; q0h); (try dsimp only))
       omega
      ·(have hF := (aI (aI (aI @e0 @e1) (aI @e2 @e3)) (aI (aI @q1 @g0) (aI @g1 @g2))); refine q01 (k:=?_); clear hF)
       (refine Fin.nextW (c + 1) ?_ (have hW := @hnx; q0h); (try dsimp only))
       omega
    ·have hce : c = p.cloud.length := by omega
     have hcf : (p.cloud.take c).foldl putSn u1 = (ps.take (i + 1)).foldl q1k q6r := by rw [hnext', hce, List.take_length]; rfl
     rw [hcf]
     (have hF := (aI (aI @e0 @e1) (aI @e2 @e3)); refine q01 (k:=?_); clear hF)
     (refine Fin.nextW (i + 1) ?_ (have hW := True.intro; q0h); (try dsimp only))
     omega
 ·have hie : i = ps.length := by omega
  have hop : (ps.take i).foldl q1k q6r = q0l ps := by rw [hie, List.take_length]; rfl
  rw [hop]
  obtain ⟨q1, q2⟩ := q1h ps
  unfold q7k
  generalize q0l ps = u at q1 q2 ⊢
  (have hF := @e0; refine q01 (k:=?_); clear hF)
  refine Run.wk (Wk.trans (Wk.freeze (k := 3) (cs := q7r u) rfl) (Wk.freeze (k := 4) (cs := q7s u) rfl)) ?_
  rw [zkr, zkw]
  refine Run.while (σ := Nat) (fun r => ⟨tms [(2, .ptr 2 0), (3, .ptr 3 0), (4, .ptr 4 0), (9, .ptr 9 0), (10, .int .i64 r)], mms [(2, .cells (List.replicate 16 .nil)), (3, .cells (q6l los u)), (4, .cells (q6l his u)), (9, .cells (q24 u r))]⟩)
   (fun r => r ≤ 16) (fun r => 16 - r) 0 (have hW := (aI @qfi @q6v); q0h) (Nat.zero_le _) ?_
  intro r hr
  have g0 := qcb u q1 hr
  unfold qiz
  by_cases hlt : r < 16
  ·have hru : r < u.length := by omega
   have hq := q2 r
   have g1 : (q6l los u).length = u.length := by simp [q6l]
   have g2 : (q6l his u).length = u.length := by simp [q6l]
   have g3 := qfj los hru
   have g4 := qfj his hru
   have g5 := qca u q1 hlt
   have g6 : (q24 u r).take r ++ AVal.sl 1 (q05 (q0o (u.getD r []))) :: (q24 u r).drop (r + 1) = q24 u (r + 1) := by rw [← g5, List.set_eq_take_append_cons_drop, if_pos (by omega)]
   (have hF := (aI (aI @q1 (aI @g0 @g1)) (aI (aI @g2 @g3) (aI @g4 @g5))); refine q01 (k:=?_); clear hF)
   refine q00 [.sl 1 (q05 (los (u.getD r []))), .sl 1 (q05 (his (u.getD r [])))] (he := ev_k153 _ (by omega)) (k:=?_)
   (have hF := (aI (aI (aI @q1 @g0) (aI @g1 (aI @g2 @g3))) (aI (aI @g4 @g5) (aI @g6 (aI @List.cons_append.{0} @List.nil_append.{0})))); refine q01 (k:=?_); clear hF)
   have g7 : List.take r (q24 u r) ++ AVal.sl 1 (q05 (q0o (u[r]?.getD []))) :: List.drop (r + 1) (q24 u r) = q24 u (r + 1) := by simpa using g6
   (refine Fin.nextW (r + 1) ?_ (have hW := (aI @qfi (aI @q6v @g7)); q0h); (try dsimp only))
   omega
  ·have hre : r = 16 := by omega
   subst hre
   have g1 := qcc u q1
   have g2 : (q0i (u.map q0o)).length = 16 := by simp [q0i, q1]
   have g3 := q4b (u.map q0o)
   rw [g1]
   have htk : (q0i (u.map q0o)).take 16 = q0i (u.map q0o) := List.take_of_length_le (by omega)
   have g4 : (q0i (u.map q0o)).all AVal.plain = true := by
    rw [List.all_eq_true]
    intro x hx
    obtain ⟨l, _, rfl⟩ := List.mem_map.1 hx
    rfl
   have g5 : (List.replicate 16 AVal.nil).drop 16 = [] := rfl
   (have hF := (aI (aI @g2 (aI @g3 @g4)) (aI @g5 (aI @htk @List.length_replicate.{0}))); refine q01 (k:=?_); clear hF)
   refine Fin.all (xs := [.agg (q0i (u.map q0o))]) ?_ (by simp [q0j, AVal.stb, q2k]) rfl
   simp [q54, q8k, qba, TE_0, TE_3, TE_16, TE_23, TE_24, TE_26, zlr, zlq, zlp, z89, zlo, zln, TD.isAgg, upd, tms, g2, htk, qdu]


theorem q85 {t : List (List Int)} {r : Nat} (h : r < t.length) : (q0i t)[r]? = some (.sl 1 (q05 (t.getD r []))) := by simp [q0i, h]


def zg0 : List SOp := [zO 2 (.box 26 (.tmp 0)),zO 3 (.box 41 (.tmp 1)),zO 4 (.assign (.const (.bool false)))]
instance : Live zg0 := ⟨[0,1]⟩
def zfz : List SOp := [zL 5 41 3,zO 6 (.call ⟨.value (.func 98),#[.tmp 5],#[41]⟩),zO 7 (.unOp .not 4 (.tmp 6))]
instance : Live zfz := ⟨[2,3]⟩
def zfy : List SOp := [zO 4 (.assign (.const (.bool false)))]
instance : Live zfy := ⟨[]⟩
def zfx : List SOp := [zF 8 41 3 0,zL 9 3 8,zF 10 26 2 0,zL 11 23 10,zO 12 (.call ⟨.builtin .len,#[.tmp 11],#[23]⟩),zO 13 (.binOp .lss 3 (.tmp 9) (.tmp 12) 3),zM 14 13,⟨some 15,.fieldAddr 41 (.tmp 3) 1,some ((some 14),true)⟩,⟨some 16,.load 3 (.tmp 15),some ((some 14),true)⟩,⟨some 17,.fieldAddr 26 (.tmp 2) 0,some ((some 14),true)⟩,⟨some 18,.load 23 (.tmp 17),some ((some 14),true)⟩,⟨some 19,.fieldAddr 41 (.tmp 3) 0,some ((some 14),true)⟩,⟨some 20,.load 3 (.tmp 19),some ((some 14),true)⟩,⟨some 21,.indexAddr 23 (.tmp 18) (.tmp 20),some ((some 14),true)⟩,⟨some 22,.load 3 (.tmp 21),some ((some 14),true)⟩,⟨some 23,.binOp .leq 3 (.tmp 16) (.tmp 22) 3,some ((some 14),true)⟩,zO 24 (.pick (.tmp 14) (.tmp 23) (.const (.bool false)))]
instance : Live zfx := ⟨[2,3]⟩
def zfw : List SOp := [zO 4 (.assign (.const (.bool true)))]
instance : Live zfw := ⟨[]⟩
def zfv : List SOp := [zF 25 26 2 1,zL 26 24 25,zO 27 (.makeFunc (.func 100) #[] #[.tmp 3]),zO 28 (.call ⟨.value (.func 99),#[.tmp 26,.tmp 27],#[24,142]⟩),zG 4 28]
instance : Live zfv := ⟨[2,3]⟩
def t_k51 : SC :=
 (.seq (.ops false zg0) (.seq (.seq (.ops false zfz) (.cond (.tmp 7) (.seq (.ops false zfy) .ret) .skip)) (.seq (.seq (.ops true zfx) (.cond (.tmp 24) (.seq (.ops false zfw) .ret) .skip)) (.seq (.ops false zfv) .ret))))
theorem it_k51 : FnIs Tryz.prog 51 29 [.tmp 4] t_k51 := ⟨Tryz.f51, _, Tryz.func51, rfl, rfl, rfl, rfl, by kernel_rfl⟩

def zc0 : List SOp := [zO 1 (.box 41 (.tmp 0)),zO 2 (.assign (.const (.bool false)))]
instance : Live zc0 := ⟨[0]⟩
def zbz : List SOp := [zF 3 41 1 0,zL 4 3 3,zO 5 (.binOp .geq 3 (.tmp 4) (.const (.int .i64 0)) 3),zM 6 5,⟨some 7,.fieldAddr 41 (.tmp 1) 0,some ((some 6),true)⟩,⟨some 8,.load 3 (.tmp 7),some ((some 6),true)⟩,⟨some 9,.binOp .lss 3 (.tmp 8) (.const (.int .i64 16)) 3,some ((some 6),true)⟩,zO 10 (.pick (.tmp 6) (.tmp 9) (.const (.bool false))),zM 11 10,⟨some 12,.fieldAddr 41 (.tmp 1) 1,some ((some 11),true)⟩,⟨some 13,.load 3 (.tmp 12),some ((some 11),true)⟩,⟨some 14,.binOp .geq 3 (.tmp 13) (.const (.int .i64 1)) 3,some ((some 11),true)⟩,zO 15 (.pick (.tmp 11) (.tmp 14) (.const (.bool false))),zM 16 15,⟨some 17,.fieldAddr 41 (.tmp 1) 1,some ((some 16),true)⟩,⟨some 18,.load 3 (.tmp 17),some ((some 16),true)⟩,⟨some 19,.binOp .leq 3 (.tmp 18) (.const (.int .i64 1000000000)) 3,some ((some 16),true)⟩,zO 20 (.pick (.tmp 16) (.tmp 19) (.const (.bool false))),zG 2 20]
instance : Live zbz := ⟨[1]⟩
def t_k98 : SC :=
 (.seq (.ops false zc0) (.seq (.ops false zbz) .ret))
theorem it_k98 : FnIs Tryz.prog 98 21 [.tmp 2] t_k98 := ⟨Tryz.f98, _, Tryz.func98, rfl, rfl, rfl, rfl, by kernel_rfl⟩

def zby : List SOp := [zO 4 (.assign (.const (.bool false)))]
instance : Live zby := ⟨[0,1]⟩
def zbx : List SOp := [zM 5 0,zM 6 1,zO 7 (.call ⟨.value (.func 136),#[.tmp 5,.tmp 6],#[24,142]⟩),zO 8 (.binOp .geq 3 (.tmp 7) (.const (.int .i64 0)) 3),zG 4 8]
instance : Live zbx := ⟨[0,1]⟩
def t_k99 : SC :=
 (.seq (.ops false zby) (.seq (.ops false zbx) .ret))
theorem it_k99 : FnIs Tryz.prog 99 9 [.tmp 4] t_k99 := ⟨Tryz.f99, _, Tryz.func99, rfl, rfl, rfl, rfl, by kernel_rfl⟩

def z6q : List SOp := [zO 2 (.box 127 (.tmp 0)),zO 3 (.assign (.const (.bool false)))]
instance : Live z6q := ⟨[0,1]⟩
def z6p : List SOp := [zF 4 127 2 0,zL 5 3 4,zF 6 41 1 0,zL 7 3 6,zO 8 (.binOp .eql 3 (.tmp 5) (.tmp 7) 3),zM 9 8,⟨some 10,.fieldAddr 127 (.tmp 2) 1,some ((some 9),true)⟩,⟨some 11,.load 3 (.tmp 10),some ((some 9),true)⟩,⟨some 12,.fieldAddr 41 (.tmp 1) 1,some ((some 9),true)⟩,⟨some 13,.load 3 (.tmp 12),some ((some 9),true)⟩,⟨some 14,.binOp .leq 3 (.tmp 11) (.tmp 13) 3,some ((some 9),true)⟩,zO 15 (.pick (.tmp 9) (.tmp 14) (.const (.bool false))),zM 16 15,⟨some 17,.fieldAddr 41 (.tmp 1) 1,some ((some 16),true)⟩,⟨some 18,.load 3 (.tmp 17),some ((some 16),true)⟩,⟨some 19,.fieldAddr 127 (.tmp 2) 2,some ((some 16),true)⟩,⟨some 20,.load 3 (.tmp 19),some ((some 16),true)⟩,⟨some 21,.binOp .leq 3 (.tmp 18) (.tmp 20) 3,some ((some 16),true)⟩,zO 22 (.pick (.tmp 16) (.tmp 21) (.const (.bool false))),zG 3 22]
instance : Live z6p := ⟨[1,2]⟩
def t_k100 : SC :=
 (.seq (.ops false z6q) (.seq (.ops false z6p) .ret))
theorem it_k100 : FnIs Tryz.prog 100 23 [.tmp 3] t_k100 := ⟨Tryz.f100, _, Tryz.func100, rfl, rfl, rfl, rfl, by kernel_rfl⟩

def z15 : List SOp := [zO 4 (.assign (.const (.int .i64 0)))]
instance : Live z15 := ⟨[0,1]⟩
def z14 : List SOp := [zM 6 0,zO 7 (.call ⟨.builtin .len,#[.tmp 6],#[24]⟩),zO 8 (.move (.const (.int .i64 0)))]
instance : Live z14 := ⟨[0,1]⟩
def z13 : List SOp := [zO 9 (.binOp .lss 3 (.tmp 8) (.tmp 7) 3)]
instance : Live z13 := ⟨[0,1,7,8]⟩
def z12 : List SOp := [zM 10 8,zG 5 10]
instance : Live z12 := ⟨[0,1,7,8]⟩
def z11 : List SOp := [zM 11 1,zM 12 0,zM 13 5,zI 14 24 12 13,zL 15 127 14,zO 16 (.call ⟨.value (.tmp 11),#[.tmp 15],#[127]⟩)]
instance : Live z11 := ⟨[0,1,5,7,8]⟩
def z10 : List SOp := [zM 17 5,zG 4 17]
instance : Live z10 := ⟨[5]⟩
def z0z : List SOp := [zO 18 (.binOp .add 3 (.tmp 8) (.const (.int .i64 1)) 3),zM 8 18]
instance : Live z0z := ⟨[0,1,7,8]⟩
def z0y : List SOp := [zO 4 (.assign (.const (.int .i64 (-1))))]
instance : Live z0y := ⟨[]⟩
def qc4 : SC :=
 (.seq (.ops false z13) (.seq (.cond (.tmp 9) .skip (.exit 0)) (.seq (.block 1 (.seq (.ops false z12) (.seq (.ops false z11) (.cond (.tmp 16) (.seq (.ops false z10) .ret) .skip)))) (.ops false z0z))))
def t_k136 : SC :=
 (.seq (.ops false z15) (.seq (.seq (.ops false z14) (.block 0 (.loop qc4))) (.seq (.ops false z0y) .ret)))
theorem it_k136 : FnIs Tryz.prog 136 19 [.tmp 4] t_k136 := ⟨Tryz.f136, _, Tryz.func136, rfl, rfl, rfl, rfl, by kernel_rfl⟩

def LoopP (n : Nat) (s2 : AS) (I : Prop) (Q : Ex → AS → Prop) : Ex → AS → Prop := Ex.then (fun s' => Wk n s' s2 ∧ I) Q
theorem Fin.nextP {E : Env} {n : Nat} {s s2 : AS} {I : Prop} {Q' : Ex → AS → Prop} (h : Wk n s s2) (hi : I) : Fin E n (LoopP n s2 I Q') .done .normal s := ⟨h, hi⟩
theorem Fin.outP_ret {E : Env} {n : Nat} {s s2 : AS} {I : Prop} {Q : Ex → AS → Prop} {k : Kont} (h : Fin E n Q k .ret s) : Fin E n (LoopP n s2 I (KQ E n Q k)) .done .ret s := h
theorem Run.rangeP {E : Env} {n : Nat} {Q : Ex → AS → Prop} {k : Kont} {s : AS} {x : SC} (len : Nat) (S : Nat → AS) (I : Nat → Prop) (h0 : Wk n s (S 0)) (hI : I 0) (round : ∀ i, i < len → I i → Run E n (LoopP n (S (i + 1)) (I (i + 1)) (KQ E n Q k)) x .done (S i))
 (last : I len → Run E n (Ex.then (fun _ => False) (KQ E n Q k)) x .done (S len)) : Run E n Q (.loop x) k s := by
 refine Run.wk h0 (Run.loop (fun m s => ∃ i, i ≤ len ∧ m = len - i ∧ s = S i ∧ I i) (m0 := len) ⟨0, Nat.zero_le _, rfl, rfl, hI⟩ fun m s ⟨i, hi, hm, hs, hIi⟩ => ?_)
 subst hs
 by_cases hl : i < len
 ·refine AW.mono (round i hl hIi) fun e s' h => ?_
  cases e with
  | normal => exact ⟨len - (i + 1), S (i + 1), by omega, h.1, i + 1, hl, rfl, rfl, h.2⟩
  | _ => exact h
 ·have : i = len := by omega
  subst this
  refine AW.mono (last hIi) fun e s' h => ?_
  cases e with
  | normal => exact h.elim
  | _ => exact h
def q3n (r m : Int) : Bool := decide (0 ≤ r) && (decide (r < 16) && (decide (1 ≤ m) && decide (m ≤ 1000000000)))
theorem ev_k98 (d : Rn) : Ev (En Tryz.prog rfl).P 98 [q4h d] (.ret (.bool (q3n d.1 d.2))) := by
 refine Ev.of_body it_k98 (by simp) (Run.start ?_)
 unfold t_k98 q4h q3n
 cases c1 : decide (0 ≤ d.1)
 ·(have hF := @c1; refine q1j (k:=?_); clear hF)
  exact Fin.tmp' rfl rfl
 ·cases c2 : decide (d.1 < 16)
  ·(have hF := (aI @c1 @c2); refine q1j (k:=?_); clear hF)
   exact Fin.tmp' rfl rfl
  ·cases c3 : decide (1 ≤ d.2)
   ·(have hF := (aI @c1 (aI @c2 @c3)); refine q1j (k:=?_); clear hF)
    exact Fin.tmp' rfl rfl
   ·(have hF := (aI @c1 (aI @c2 @c3)); refine q1j (k:=?_); clear hF)
    exact Fin.tmp' rfl rfl
def zae (d : Rn) (s : Sn) : Bool := decide (s.1 = d.1) && (decide (s.2.1 ≤ d.2) && decide (d.2 ≤ s.2.2))
theorem ev_k100 (d : Rn) (s : Sn) : Ev (En Tryz.prog rfl).P 100 [qr4 s, .sptr [.int .i64 d.1, .int .i64 d.2]] (.ret (.bool (zae d s))) := by
 refine Ev.of_body it_k100 (by simp) (Run.start ?_)
 unfold t_k100 qr4 zae
 cases c1 : decide (s.1 = d.1)
 ·(have hF := @c1; refine q1j (k:=?_); clear hF)
  exact Fin.tmp' rfl rfl
 ·cases c2 : decide (s.2.1 ≤ d.2)
  ·(have hF := (aI @c1 @c2); refine q1j (k:=?_); clear hF)
   exact Fin.tmp' rfl rfl
  ·(have hF := (aI @c1 @c2); refine q1j (k:=?_); clear hF)
   exact Fin.tmp' rfl rfl
def idxR (q : Sn → Bool) (l : List Sn) : Int := match l.findIdx? q with | some i => i | none => -1
theorem ev_k136 (l : List Sn) (hl : l.length ≤ 1000000000) (g : FuncId) (caps : List AVal) (hs : q0j caps = true) (hc : caps.map (fz (fun _ => false) NoM) = caps) (q : Sn → Bool) (hf : ∀ s ∈ l, Ev (En Tryz.prog rfl).P g (qr4 s :: caps) (.ret (.bool (q s)))) :
 Ev (En Tryz.prog rfl).P 136 [.sl 3 (q0d l), .fn g caps] (.ret (.int .i64 (idxR q l))) := by
 refine Ev.of_body it_k136 (by simp) (Run.start ?_)
 unfold t_k136
 have e4 : (q0d l).length = l.length := q1f _
 (have hF := @e4; refine q1j (k:=?_); clear hF)
 refine Run.rangeP l.length (fun i => ⟨tms [(0, .sl 3 (q0d l)), (1, .fn g caps), (7, .int .i64 l.length), (8, .int .i64 i)], NoM⟩) (fun i => ∀ x ∈ l.take i, q x = false) (Wk.clean _ ⟨rfl, rfl, rfl, rfl, trivial⟩ ⟨q03 l, hs, rfl, rfl, trivial⟩) (by simp) (fun i hi hI => ?_) (fun hI => ?_)
 ·obtain ⟨s, hsx⟩ : ∃ s, l[i]? = some s := ⟨l[i], by simp [hi]⟩
  have e1 : ((i : Int) < (l.length : Int)) = True := by simp only [eq_iff_iff, iff_true]; omega
  have e2 : (0 ≤ (i : Int)) = True := by simp
  have e3 : (q0d l)[i]? = some (.agg [.int .i64 s.1, .int .i64 s.2.1, .int .i64 s.2.2]) := q2e hsx
  have e13 : IntKind.i64.wrap ((i : Int) + 1) = ((i + 1 : Nat) : Int) := by rw [q3f (by omega)]; omega
  unfold qc4
  (have hF := (aI (aI @e1 @e2) (aI @e3 @e4)); refine q1j (k:=?_); clear hF)
  refine q2t (l := qr4 s :: caps) rfl ?_ (by simp [q0j, qr4, AVal.stb, hs]) (hf s (List.mem_of_getElem? hsx)) ?_
  ·show _ :: caps.map (fz (fun _ => false) NoM) = _
   rw [hc]
   rfl
  cases hq : q s
  ·(have hF := (aI (aI @e1 @e2) (aI @e3 (aI @e4 @e13))); refine q1j (k:=?_); clear hF)
   refine Fin.nextP (Wk.clean _ ⟨rfl, rfl, rfl, rfl, trivial⟩ ⟨q03 l, hs, rfl, rfl, trivial⟩) (fun x hx => ?_)
   rw [List.take_add_one, hsx] at hx
   rcases List.mem_append.1 hx with hx | hx
   ·exact hI x hx
   ·simp at hx; subst hx; exact hq
  ·(have hF := (aI (aI @e1 @e2) (aI @e3 (aI @e4 @e13))); refine q1j (k:=?_); clear hF)
   have hidx : l.findIdx? q = some i := by
    rw [List.findIdx?_eq_some_iff_getElem]
    refine ⟨hi, by have := hsx; rw [List.getElem?_eq_getElem hi] at this; cases this; exact hq, fun j hj => ?_⟩
    have : l[j] ∈ l.take i := by rw [List.mem_take_iff_getElem]; exact ⟨j, by omega, rfl⟩
    simp [hI _ this]
   unfold idxR
   rw [hidx]
   exact Fin.outP_ret (Fin.block_ret (Fin.seq_ret (Fin.tmp' rfl rfl)))
 ·have e1 : ((l.length : Int) < (l.length : Int)) = False := by simp
  unfold qc4
  (have hF := @e1; refine q1j (k:=?_); clear hF)
  have hidx : l.findIdx? q = none := by
   rw [List.findIdx?_eq_none_iff]
   rw [List.take_length] at hI
   exact hI
  unfold idxR
  rw [hidx]
  exact Fin.tmp' rfl rfl
theorem idxR_any (q : Sn → Bool) (l : List Sn) : decide (0 ≤ idxR q l) = l.any q := by
 unfold idxR
 cases h : l.findIdx? q with
 | none =>
  rw [List.findIdx?_eq_none_iff] at h
  have : l.any q = false := by rw [List.any_eq_false]; intro x hx; simp [h x hx]
  rw [this]
  rfl
 | some i =>
  obtain ⟨hi, hq, _⟩ := List.findIdx?_eq_some_iff_getElem.1 h
  have : l.any q = true := List.any_eq_true.2 ⟨l[i], List.getElem_mem hi, hq⟩
  rw [this]
  simp
theorem ev_k99 (l : List Sn) (hl : l.length ≤ 1000000000) (g : FuncId) (caps : List AVal) (hs : q0j caps = true) (hc : caps.map (fz (fun _ => false) NoM) = caps)
 (hc2 : caps.map (fun c => match c with | .ptr k off => AVal.undef | c => fzc (fun _ => false) NoM c) = caps) (q : Sn → Bool) (hf : ∀ s ∈ l, Ev (En Tryz.prog rfl).P g (qr4 s :: caps) (.ret (.bool (q s)))) :
 Ev (En Tryz.prog rfl).P 99 [.sl 3 (q0d l), .fn g caps] (.ret (.bool (l.any q))) := by
 refine Ev.of_body it_k99 (by simp) (Run.start ?_)
 unfold t_k99
 rw [← idxR_any]
 (have hF := True.intro; refine q1j (k:=?_); clear hF)
 refine q2t (l := [.sl 3 (q0d l), .fn g caps]) rfl ?_ (by simp [q0j, AVal.stb, hs, q03]) (ev_k136 l hl g caps hs hc q hf) ?_
 ·show [AVal.sl 3 (q0d l), AVal.fn g _] = _
  congr 3
 (have hF := True.intro; refine q1j (k:=?_); clear hF)
 exact Fin.tmp' rfl rfl
def q1s (p : Pst) (d : Rn) : Bool := q3n d.1 d.2 && ((decide (d.1 < p.vec.length) && decide (d.2 ≤ q1n p.vec d.1.toNat)) || p.cloud.any (zae d))
theorem z7m (p : Pst) (d : Rn) (hw : wt p ≤ 900000000) : Ev (En Tryz.prog rfl).P 51 [q0g p, q4h d] (.ret (.bool (q1s p d))) := by
 refine Ev.of_body it_k51 (by simp) (Run.start ?_)
 have hwt : wt p = p.vec.length + p.cloud.length := rfl
 have e0 : (q05 p.vec).length = p.vec.length := q0f _
 unfold t_k51 q0g
 have hx : q4h d = .agg [.int .i64 d.1, .int .i64 d.2] := rfl
 rw [hx]
 (have hF := True.intro; refine q1j (k:=?_); clear hF)
 refine q2t (l := [q4h d]) rfl rfl rfl (ev_k98 d) ?_
 unfold q1s
 cases c0 : q3n d.1 d.2
 ·(have hF := @e0; refine q1j (k:=?_); clear hF)
  exact Fin.tmp' rfl rfl
 ·have hd : 0 ≤ d.1 ∧ d.1 < 16 := by simp [q3n] at c0; omega
  obtain ⟨r, hr⟩ : ∃ r : Nat, d.1 = r := ⟨d.1.toNat, by omega⟩
  have hcall : Ev (En Tryz.prog rfl).P 99 [.sl 3 (q0d p.cloud), .fn 100 [.sptr [.int .i64 d.1, .int .i64 d.2]]] (.ret (.bool (p.cloud.any (zae d)))) :=
   ev_k99 p.cloud (by omega) 100 _ rfl rfl rfl (zae d) (fun s _ => ev_k100 d s)
  cases c1 : decide (d.1 < (p.vec.length : Int))
  ·(have hF := (aI @e0 @c1); refine q1j (k:=?_); clear hF)
   refine z81 (fun j => j == 3) (l := [.sl 3 (q0d p.cloud), .fn 100 [.sptr [.int .i64 d.1, .int .i64 d.2]]]) rfl rfl (by simp [q0j, AVal.stb, q03]) hcall rfl rfl ?_
   (have hF := @e0; refine q1j (k:=?_); clear hF)
   exact Fin.tmp' rfl rfl
  ·have hrl : r < p.vec.length := by simp at c1; omega
   have e1 : (q05 p.vec)[r]? = some (.int .i64 (q1n p.vec r)) := q0w (by simp [q1n, hrl])
   have e2 : (0 ≤ (r : Int)) = True := by simp
   have e3 : ((r : Int) < (p.vec.length : Int)) = True := by simp only [eq_iff_iff, iff_true]; omega
   rw [hr] at c1 hcall ⊢
   rw [Int.toNat_natCast]
   cases c2 : decide (d.2 ≤ q1n p.vec r)
   ·(have hF := (aI (aI @e0 (aI @e1 @e2)) (aI @e3 (aI @c1 @c2))); refine q1j (k:=?_); clear hF)
    refine z81 (fun j => j == 3) (l := [.sl 3 (q0d p.cloud), .fn 100 [.sptr [.int .i64 r, .int .i64 d.2]]]) rfl rfl (by simp [q0j, AVal.stb, q03]) hcall rfl rfl ?_
    (have hF := @e0; refine q1j (k:=?_); clear hF)
    exact Fin.tmp' rfl rfl
   ·(have hF := (aI (aI @e0 (aI @e1 @e2)) (aI @e3 (aI @c1 @c2))); refine q1j (k:=?_); clear hF)
    exact Fin.tmp' rfl rfl

def zct : List SOp := [zO 2 (.alloc 26)]
instance : Live zct := ⟨[0]⟩
def zcs : List SOp := [zO 6 (.build 151 #[]),zO 7 (.box 151 (.tmp 6)),zG 3 7]
instance : Live zcs := ⟨[0,2]⟩
def zcr : List SOp := [zM 8 0,zO 9 (.call ⟨.builtin .len,#[.tmp 8],#[38]⟩),zO 10 (.move (.const (.int .i64 0)))]
instance : Live zcr := ⟨[0,2,3]⟩
def zcq : List SOp := [zO 11 (.binOp .lss 3 (.tmp 10) (.tmp 9) 3)]
instance : Live zcq := ⟨[2,3,8,9,10]⟩
def zcp : List SOp := [zI 12 38 8 10,zL 13 41 12,zO 5 (.alloc 41),⟨none,.store 41 (.tmp 5) (.tmp 13),none⟩]
instance : Live zcp := ⟨[2,3,8,9,10]⟩
def zco : List SOp := [zL 14 41 5,zO 15 (.call ⟨.value (.func 98),#[.tmp 14],#[41]⟩)]
instance : Live zco := ⟨[2,3,5,8,9,10]⟩
def qqa : List SOp := [zM 16 3,zF 17 41 5 0,zL 18 3 17,zM 19 3,zF 20 41 5 0,zL 21 3 20,zO 22 (.nilCheck (.tmp 19)),zI 23 151 22 21,zL 24 149 23,zF 25 41 5 1,zL 26 3 25,zF 27 41 5 1,zL 28 3 27,zO 29 (.build 179 #[(0,.tmp 26),(1,.tmp 28)]),zO 30 (.buildSlice 149 1 #[(0,.tmp 29)]),zO 31 (.call ⟨.builtin .append,#[.tmp 24,.tmp 30],#[149,149]⟩),zO 32 (.nilCheck (.tmp 16)),zI 33 151 32 18,⟨none,.store 149 (.tmp 33) (.tmp 31),none⟩]
instance : Live qqa := ⟨[2,3,5,8,9,10]⟩
instance : Rd qqa := ⟨fun j => j == 5⟩
def zcn : List SOp := [zO 34 (.binOp .add 3 (.tmp 10) (.const (.int .i64 1)) 3),zM 10 34]
instance : Live zcn := ⟨[2,3,8,9,10]⟩
def zcm : List SOp := [zM 35 3,zO 36 (.call ⟨.value (.func 97),#[.tmp 35],#[137]⟩),⟨none,.store 26 (.tmp 2) (.tmp 36),none⟩]
instance : Live zcm := ⟨[2,3]⟩
def qbh : SC :=
 (.seq (.ops false zcq) (.seq (.cond (.tmp 11) .skip (.exit 0)) (.seq (.block 1 (.seq (.ops false zcp) (.seq (.ops false zco) (.cond (.tmp 15) (.opsW [24] qqa) .skip)))) (.ops false zcn))))
def t_k94 : SC :=
 (.seq (.ops false zct) (.seq (.ops false zcs) (.seq (.seq (.ops false zcr) (.block 0 (.loop qbh))) (.seq (.ops false zcm) .ret))))
theorem it_k94 : FnIs Tryz.prog 94 37 [.cell 2 26] t_k94 := ⟨Tryz.f94, _, Tryz.func94, rfl, rfl, rfl, rfl, by kernel_rfl⟩

def q44 (t : Tab) (d : Rn) : Tab := if q3n d.1 d.2 = true then q6q t d.1.toNat (d.2, d.2) else t
theorem zij {t : Tab} {d : Rn} (h : q3n d.1 d.2 = true) : q44 t d = q6q t d.1.toNat (d.2, d.2) := if_pos h
theorem z8l {t : Tab} {d : Rn} (h : q3n d.1 d.2 = false) : q44 t d = t := if_neg (by simp [h])
def ofT (ds : List Rn) : Tab := ds.foldl q44 q6r
theorem TabLe.dot {t : Tab} {n : Nat} (h : TabLe t n) (d : Rn) : TabLe (q44 t d) (n + 1) := by
 unfold q44
 split
 ·exact h.add _ _
 ·exact h.mono (by omega)
theorem TabLe.dots {t : Tab} {n : Nat} (h : TabLe t n) : ∀ c : List Rn, TabLe (c.foldl q44 t) (n + c.length)
 | [] => h
 | s :: c => by
  have := TabLe.dots (h.dot s) c
  simp only [List.foldl_cons, List.length_cons]
  exact this.mono (by omega)
theorem of_l1 {Q : Ex → AS → Prop} {k : Kont} (ds : List Rn) (hp : ds.length ≤ 1000000000)
 (h : Fin (En Tryz.prog rfl) 37 Q k .normal ⟨upd (tms [(2, .ptr 2 0), (3, .ptr 7 0), (8, .sl 2 (q07 ds)), (9, .int .i64 ds.length), (10, .int .i64 ds.length)]) 11 (.bool false), mms [(7, .cells (q4v (ofT ds))), (2, .cells [.nil, .nil])]⟩) :
 Run (En Tryz.prog rfl) 37 Q (.loop qbh) (.block 0 k) ⟨tms [(2, .ptr 2 0), (3, .ptr 7 0), (8, .sl 2 (q07 ds)), (9, .int .i64 ds.length), (10, .int .i64 0)], mms [(7, .cells (q4v q6r)), (2, .cells [.nil, .nil])]⟩ := by
 refine Run.range ds.length (fun i => ⟨tms [(2, .ptr 2 0), (3, .ptr 7 0), (8, .sl 2 (q07 ds)), (9, .int .i64 ds.length), (10, .int .i64 i)], mms [(7, .cells (q4v ((ds.take i).foldl q44 q6r))), (2, .cells [.nil, .nil])]⟩) (Wk.refl _ _) (fun i hi => ?_) ?_
 ·have hq0 := TabLe.dots qa5 (ds.take i)
  obtain ⟨s, hs⟩ : ∃ s, ds[i]? = some s := ⟨ds[i], by simp [hi]⟩
  rw [q32 q44 q6r ds hs]
  generalize (ds.take i).foldl q44 q6r = u at hq0 ⊢
  obtain ⟨q1, q2⟩ := hq0
  have e1 : ((i : Int) < (ds.length : Int)) = True := by simp only [eq_iff_iff, iff_true]; omega
  have e2 : (0 ≤ (i : Int)) = True := by simp
  have e3 : (q07 ds)[i]? = some (.agg [.int .i64 s.1, .int .i64 s.2]) := q3a hs
  have e4 : (q07 ds).length = ds.length := q0v _
  have e13 : IntKind.i64.wrap ((i : Int) + 1) = ((i + 1 : Nat) : Int) := by rw [q3f (by omega)]; omega
  unfold qbh
  (have hF := (aI (aI @e1 @e2) (aI @e3 @e4)); refine q1j (k:=?_); clear hF)
  refine q2t (l := [q4h s]) rfl rfl rfl (ev_k98 s) ?_
  cases c0 : q3n s.1 s.2
  ·rw [z8l c0]
   (have hF := (aI (aI @e1 @e2) (aI @e3 (aI @e4 @e13))); refine q1j (k:=?_); clear hF)
   exact Fin.next (Wk.toL _ _ ⟨rfl, rfl, rfl, rfl, rfl, trivial⟩ ⟨rfl, rfl, trivial⟩ ⟨rfl, rfl, q06 ds, rfl, rfl, trivial⟩ ⟨q2n _ _, rfl, trivial⟩)
  ·rw [zij c0]
   have hd : 0 ≤ s.1 ∧ s.1 < 16 := by simp [q3n] at c0; omega
   obtain ⟨r, hr⟩ : ∃ r : Nat, s.1 = r := ⟨s.1.toNat, by omega⟩
   have hr16 : r < 16 := by omega
   have hru : r < u.length := by rw [q1]; exact hr16
   have e5 : (q4v u)[r]? = some (.own 2 (q07 (u.getD r []))) := qhk hru
   have e6 : ((q4v u).set r .hole)[r]? = some .hole := qdt hru
   have e7 := qhl hru (s.2, s.2)
   simp only at e7
   have e8 : (q07 (u.getD r [])).length = (u.getD r []).length := q0v _
   have hq := q2 r
   have hcl : (ds.take i).length ≤ ds.length := by rw [List.length_take]; omega
   have e9 : (((u.getD r []).length + 1) * 16 ≤ 70368744177664) = True := by simp only [eq_iff_iff, iff_true]; omega
   have e10 : ((u.getD r []).length + 1 ≤ 4611686018427387904) = True := by simp only [eq_iff_iff, iff_true]; omega
   have e11 : (q4v u).length = 16 := by rw [qhj, q1]
   have e12 : (r + 1 ≤ 16) = True := by simp only [eq_iff_iff, iff_true]; omega
   have e14 : ((r : Int) < ((16 : Nat) : Int)) = True := by simp only [eq_iff_iff, iff_true]; omega
   have e15 : (0 ≤ (r : Int)) = True := by simp
   rw [hr] at ⊢
   rw [Int.toNat_natCast]
   (have hF := (aI (aI @e1 @e2) (aI @e3 @e4)); refine q1j (k:=?_); clear hF)
   ((with_reducible apply toW); refine stW (fun j => j == 5) (k:=?_))
   (have hF := (aI (aI (aI (aI @e1 @e2) (aI @e3 @e4)) (aI (aI @e5 @e6) (aI @e7 @e8))) (aI (aI (aI @e9 @e10) (aI @e11 @e12)) (aI (aI @e13 @e14) (aI @e15 @List.length_set.{0})))); refine q1j (k:=?_); clear hF)
   exact Fin.next (Wk.toL _ _ ⟨rfl, rfl, rfl, rfl, rfl, trivial⟩ ⟨rfl, rfl, trivial⟩ ⟨rfl, rfl, q06 ds, rfl, rfl, trivial⟩ ⟨q2n _ _, rfl, trivial⟩)
 ·have e1 : ((ds.length : Int) < (ds.length : Int)) = False := by simp
  have e3 : ds.take ds.length = ds := List.take_length
  rw [e3]
  unfold qbh
  (have hF := @e1; refine q1j (k:=?_); clear hF)
  exact h

def ze7 : List SOp := [zO 1 (.box 26 (.tmp 0)),zO 2 (.alloc 26)]
instance : Live ze7 := ⟨[0]⟩
def ze6 : List SOp := [zL 3 26 1,zO 4 (.buildSlice 116 1 #[(0,.tmp 3)]),zO 5 (.call ⟨.value (.func 96),#[.tmp 4],#[116]⟩),zO 6 (.call ⟨.value (.func 97),#[.tmp 5],#[137]⟩),⟨none,.store 26 (.tmp 2) (.tmp 6),none⟩]
instance : Live ze6 := ⟨[1,2]⟩
def t_k64 : SC :=
 (.seq (.ops false ze7) (.seq (.ops false ze6) .ret))
theorem it_k64 : FnIs Tryz.prog 64 7 [.cell 2 26] t_k64 := ⟨Tryz.f64, _, Tryz.func64, rfl, rfl, rfl, rfl, by kernel_rfl⟩

def zgb : List SOp := [zO 2 (.alloc 26)]
instance : Live zgb := ⟨[0]⟩
def zga : List SOp := [zM 3 0,zO 4 (.call ⟨.value (.func 96),#[.tmp 3],#[116]⟩),zO 5 (.call ⟨.value (.func 97),#[.tmp 4],#[137]⟩),⟨none,.store 26 (.tmp 2) (.tmp 5),none⟩]
instance : Live zga := ⟨[0,2]⟩
def t_k49 : SC :=
 (.seq (.ops false zgb) (.seq (.ops false zga) .ret))
theorem it_k49 : FnIs Tryz.prog 49 6 [.cell 2 26] t_k49 := ⟨Tryz.f49, _, Tryz.func49, rfl, rfl, rfl, rfl, by kernel_rfl⟩

theorem zk8 (ps : List Pst) (q : Pst) (hl : ps.length ≤ 1000000000) (hw : (ps.map wt).sum ≤ 900000000) (h52 : Ev (En Tryz.prog rfl).P 97 [.sptr (q1w (q0l ps))] (.ret (q0g q))) : Ev (En Tryz.prog rfl).P 49 [.sl 2 (q1q ps)] (.ret (q0g q)) := by
 refine Ev.of_body it_k49 (by simp) (Run.start ?_)
 unfold t_k49
 (have hF := True.intro; refine q1j (k:=?_); clear hF)
 refine q2t (l := [.sl 2 (q1q ps)]) rfl rfl (by simp [q0j, AVal.stb, q0b]) (qff ps hl hw) ?_
 (have hF := True.intro; refine q1j (k:=?_); clear hF)
 refine q2t (l := [.sptr (q1w (q0l ps))]) rfl rfl (by simp [q0j, AVal.stb, q1b]) h52 ?_
 unfold q0g
 (have hF := True.intro; refine q1j (k:=?_); clear hF)
 exact Fin.all rfl (by simp [q0j, AVal.stb, q02, q03, fzc, q5q]) rfl
theorem zk5 (p : Pst) (q : Pst) (hw : wt p ≤ 900000000) (h52 : Ev (En Tryz.prog rfl).P 97 [.sptr (q1w (q0l [p]))] (.ret (q0g q))) : Ev (En Tryz.prog rfl).P 64 [q0g p] (.ret (q0g q)) := by
 refine Ev.of_body it_k64 (by simp) (Run.start ?_)
 have hpx : q0g p = .agg [.sl 1 (q05 p.vec), .sl 3 (q0d p.cloud)] := rfl
 unfold t_k64
 rw [hpx]
 (have hF := True.intro; refine q1j (k:=?_); clear hF)
 refine q2t (l := [.sl 2 (q1q [p])]) rfl rfl (by simp [q0j, AVal.stb, q0b]) (qff [p] (by simp) (by simpa using hw)) ?_
 (have hF := True.intro; refine q1j (k:=?_); clear hF)
 refine q2t (l := [.sptr (q1w (q0l [p]))]) rfl rfl (by simp [q0j, AVal.stb, q1b]) h52 ?_
 unfold q0g
 (have hF := True.intro; refine q1j (k:=?_); clear hF)
 exact Fin.all rfl (by simp [q0j, AVal.stb, q02, q03, fzc, q5q]) rfl

theorem zk3 (ds : List Rn) (q : Pst) (hl : ds.length ≤ 1000000000) (h52 : Ev (En Tryz.prog rfl).P 97 [.sptr (q1w (ofT ds))] (.ret (q0g q))) : Ev (En Tryz.prog rfl).P 94 [.sl 2 (q07 ds)] (.ret (q0g q)) := by
 refine Ev.of_body it_k94 (by simp) (Run.start ?_)
 unfold t_k94
 have e0 : (q07 ds).length = ds.length := q0v _
 (have hF := @e0; refine q1j (k:=?_); clear hF)
 refine Run.wk (Wk.trans (Wk.own_cells (k := 7) (cs' := q4v q6r) rfl rfl ?_) (Wk.toL [(2, .ptr 2 0), (3, .ptr 7 0), (8, .sl 2 (q07 ds)), (9, .int .i64 ds.length), (10, .int .i64 0)] [(7, .cells (q4v q6r)), (2, .cells [.nil, .nil])] ⟨rfl, rfl, rfl, rfl, rfl, trivial⟩ ⟨rfl, rfl, trivial⟩ ⟨rfl, rfl, q06 ds, rfl, rfl, trivial⟩ ⟨q2n _ _, rfl, trivial⟩)) ?_
 ·intro i x y hx hy
  have hx' : (List.replicate 16 AVal.nil)[i]? = some x := hx
  rw [List.getElem?_replicate] at hx'
  have hy' : (List.replicate 16 (AVal.own 2 []))[i]? = some y := hy
  rw [List.getElem?_replicate] at hy'
  split at hx'
  ·rename_i h16
   rw [if_pos h16] at hy'
   cases hx'; cases hy'
   exact .inr ⟨rfl, 2, rfl⟩
  ·cases hx'
 refine of_l1 ds hl ?_
 (have hF := @e0; refine q1j (k:=?_); clear hF)
 refine qhu (fun j => j == 7) (l := [.sptr (q1w (ofT ds))]) rfl ?hl (by simp [q0j, AVal.stb, q1b]) h52 rfl ?k
 case hl =>
  show [AVal.sptr (((q4v (ofT ds)).map (fzc (fun j => j == 7) _)).drop 0)] = _
  simp [q4v, q1w, fzc]
 unfold q0g
 (have hF := True.intro; refine q1j (k:=?_); clear hF)
 exact Fin.all rfl (by simp [q0j, AVal.stb, q02, q03, fzc, q5q]) rfl

def inT (t : Tab) (r : Nat) (n : Int) : Prop := mem1 (t.getD r []) n
def inP (p : Pst) (r : Nat) (n : Int) : Prop := r < 16 ∧ 1 ≤ n ∧ n ≤ 1000000000 ∧ ((r < p.vec.length ∧ n ≤ q1n p.vec r) ∨ ∃ s ∈ p.cloud, s.1 = (r : Int) ∧ s.2.1 ≤ n ∧ n ≤ s.2.2)
theorem qa1 {t : Tab} (k : Nat) (x : Rn) (r : Nat) : (q6q t k x).getD r [] = if r = k ∧ k < t.length then t.getD r [] ++ [x] else t.getD r [] := by
 unfold q6q
 simp only [List.getD_eq_getElem?_getD, List.getElem?_set]
 by_cases h : k = r
 ·subst h
  by_cases h2 : k < t.length
  ·simp [h2]
  ·simp [h2]
 ·rw [if_neg h, if_neg (fun hh => h hh.1.symm)]
theorem qjt (v : List Int) (t : Tab) (ht : t.length = 16) : ∀ i, i ≤ 16 → ((List.range i).foldl (q3l v) t).length = 16 ∧ ∀ r, ((List.range i).foldl (q3l v) t).getD r [] = if r < i then t.getD r [] ++ [(1, q1n v r)] else t.getD r []
 | 0, _ => ⟨ht, fun r => by simp⟩
 | i + 1, hi => by
  obtain ⟨h1, h2⟩ := qjt v t ht i (by omega)
  rw [q7y]
  generalize (List.range i).foldl (q3l v) t = u at h1 h2 ⊢
  refine ⟨by unfold q3l; rw [qa2, h1], fun r => ?_⟩
  unfold q3l
  rw [qa1, h1, h2]
  by_cases hr : r = i
  ·subst hr
   rw [if_pos ⟨rfl, by omega⟩, if_neg (by omega), if_pos (by omega)]
  ·rw [if_neg (fun h => hr h.1)]
   by_cases hlt : r < i
   ·rw [if_pos hlt, if_pos (by omega)]
   ·rw [if_neg hlt, if_neg (by omega)]
def q8t (c : List Sn) (r : Nat) : List Rn := (c.filter fun s => decide (s.1 = (r : Int))).map fun s => s.2
theorem qp9 (r : Nat) (hr : r < 16) : ∀ (c : List Sn) (t : Tab), t.length = 16 → (q4k c t).length = 16 ∧ (q4k c t).getD r [] = t.getD r [] ++ q8t c r
 | [], t, ht => ⟨ht, by simp [q4k, q8t]⟩
 | s :: c, t, ht => by
  have hl : (putSn t s).length = 16 := by
   unfold putSn
   split
   ·rw [qa2, ht]
   ·exact ht
  obtain ⟨h1, h2⟩ := qp9 r hr c (putSn t s) hl
  refine ⟨h1, ?_⟩
  show (q4k c (putSn t s)).getD r [] = _
  rw [h2]
  unfold putSn q8t
  rw [List.filter_cons]
  by_cases hs : s.1 = (r : Int)
  ·rw [if_pos (by omega), qa1, if_pos ⟨by omega, by omega⟩]
   simp [hs]
  ·simp only [hs, decide_false, Bool.false_eq_true, if_false]
   split
   ·rw [qa1, if_neg (by omega)]
   ·rfl
theorem z8e (c : List Sn) (r : Nat) (n : Int) : inR (q8t c r) n ↔ ∃ s ∈ c, s.1 = (r : Int) ∧ s.2.1 ≤ n ∧ n ≤ s.2.2 := by
 constructor
 ·rintro ⟨x, hx, h1, h2⟩
  simp only [q8t, List.mem_map, List.mem_filter, decide_eq_true_eq] at hx
  obtain ⟨s, ⟨hs, hr⟩, rfl⟩ := hx
  exact ⟨s, hs, hr, h1, h2⟩
 ·rintro ⟨s, hs, hr, h1, h2⟩
  exact ⟨s.2, by simp only [q8t, List.mem_map, List.mem_filter, decide_eq_true_eq]; exact ⟨s, ⟨hs, hr⟩, rfl⟩, h1, h2⟩
theorem zit {t : Tab} (ht : t.length = 16) (p : Pst) {r : Nat} (hr : r < 16) : (q1k t p).length = 16 ∧ (q1k t p).getD r [] = (if r < p.vec.length then t.getD r [] ++ [(1, q1n p.vec r)] else t.getD r []) ++ q8t p.cloud r := by
 obtain ⟨h1, h2⟩ := qjt p.vec t ht (min p.vec.length 16) (by omega)
 obtain ⟨h3, h4⟩ := qp9 r hr p.cloud (q5l p.vec t) h1
 refine ⟨h3, ?_⟩
 show (q4k p.cloud (q5l p.vec t)).getD r [] = _
 rw [h4]
 unfold q5l
 rw [h2]
 by_cases h : r < p.vec.length
 ·rw [if_pos h, if_pos (by omega)]
 ·rw [if_neg h, if_neg (by omega)]
theorem one_in {t : Tab} (ht : t.length = 16) (p : Pst) {r : Nat} (hr : r < 16) (n : Int) : inT (q1k t p) r n ↔ inT t r n ∨ inP p r n := by
 unfold inT mem1
 rw [(zit ht p hr).2, q2i, z8e]
 unfold inP
 constructor
 ·rintro ⟨h1, h2, h | h⟩
  ·split at h
   ·rename_i hv
    rcases (q2i _ _ _).1 h with h | h
    ·exact .inl ⟨h1, h2, h⟩
    ·exact .inr ⟨hr, h1, h2, .inl ⟨hv, ((q70 _ _).1 h).2⟩⟩
   ·exact .inl ⟨h1, h2, h⟩
  ·exact .inr ⟨hr, h1, h2, .inr h⟩
 ·rintro (⟨h1, h2, h⟩ | ⟨_, h1, h2, h | h⟩)
  ·refine ⟨h1, h2, .inl ?_⟩
   split
   ·exact (q2i _ _ _).2 (.inl h)
   ·exact h
  ·refine ⟨h1, h2, .inl ?_⟩
   rw [if_pos h.1]
   exact (q2i _ _ _).2 (.inr ((q70 _ _).2 ⟨h1, h.2⟩))
  ·exact ⟨h1, h2, .inr h⟩
theorem zar (r : Nat) (n : Int) : ¬ inT q6r r n := by
 unfold inT mem1
 rintro ⟨_, _, h⟩
 have : q6r.getD r [] = [] := by
  unfold q6r
  rw [List.getD_eq_getElem?_getD, List.getElem?_replicate]
  split <;> rfl
 rw [this] at h
 exact q29 n h
theorem qcx {r : Nat} (hr : r < 16) (n : Int) : ∀ (ps : List Pst) (t : Tab), t.length = 16 → (inT (ps.foldl q1k t) r n ↔ inT t r n ∨ ∃ p ∈ ps, inP p r n)
 | [], t, ht => by simp
 | p :: ps, t, ht => by
  rw [List.foldl_cons, qcx hr n ps _ (zit ht p hr).1, one_in ht p hr]
  constructor
  ·rintro ((h | h) | ⟨q, hq, h⟩)
   ·exact .inl h
   ·exact .inr ⟨p, by simp, h⟩
   ·exact .inr ⟨q, by simp [hq], h⟩
  ·rintro (h | ⟨q, hq, h⟩)
   ·exact .inl (.inl h)
   ·rcases List.mem_cons.1 hq with rfl | hq
    ·exact .inl (.inr h)
    ·exact .inr ⟨q, hq, h⟩
theorem q69 {r : Nat} (hr : r < 16) (ps : List Pst) (n : Int) : inT (q0l ps) r n ↔ ∃ p ∈ ps, inP p r n := by
 unfold q0l
 rw [qcx hr n ps q6r rfl]
 exact ⟨fun h => h.elim (fun h => absurd h (zar r n)) id, .inr⟩
theorem zj7 {m : List Rn} (h : Can m) (n : Int) : inR m n ↔ (1 ≤ n ∧ n ≤ (q1p m).1) ∨ inR (q1p m).2 n := by
 cases m with
 | nil =>
  simp only [q1p]
  constructor
  ·exact .inr
  ·rintro (h | h)
   ·omega
   ·exact h
 | cons x l =>
  have hx := (Can.cons_iff.1 h).1
  unfold okR at hx
  by_cases h1 : x.1 = 1
  ·rw [qbm h1, q0u]
   simp only [h1]
  ·rw [qbl h1]
   constructor
   ·exact .inr
   ·rintro (h | h)
    ·omega
    ·exact h
theorem qf7 {m : List Rn} (h : Can m) : Can (q1p m).2 ∧ 0 ≤ (q1p m).1 ∧ (q1p m).1 ≤ 1000000000 ∧ ∀ n, inR (q1p m).2 n → (q1p m).1 + 1 < n := by
 cases m with
 | nil => exact ⟨Can.nil, by simp [q1p], by simp [q1p], fun n hn => absurd hn (q29 n)⟩
 | cons x l =>
  have hx := (Can.cons_iff.1 h).1
  unfold okR at hx
  by_cases h1 : x.1 = 1
  ·rw [qbm h1]
   exact ⟨h.tail, by show 0 ≤ x.2; omega, hx.2.2, fun n hn => h.above hn⟩
  ·rw [qbl h1]
   refine ⟨h, Int.le_refl _, by show (0 : Int) ≤ _; omega, fun n hn => ?_⟩
   show (0 : Int) + 1 < n
   rcases (q0u x l n).1 hn with hn | hn
   ·omega
   ·have := h.above hn; omega
theorem qev (t : Tab) : ∀ (m r : Nat), r < m → q2z t m ≤ r → q8y t r ≤ 0
 | 0, r, hr, _ => by omega
 | m + 1, r, hr, h => by
  rw [q7x] at h
  split at h
  ·omega
  ·rename_i hl
   by_cases hrm : r = m
   ·subst hrm; omega
   ·exact qev t m r (by omega) h
theorem z90 (t : Tab) {m r : Nat} (h : r < m) : (q2r t m)[r]? = some (q8y t r) := by simp [q2r, h]
theorem zl5 (t : Tab) {m r : Nat} (hr : r < m) (n : Int) : (∃ s ∈ q1u t m, s.1 = (r : Int) ∧ s.2.1 ≤ n ∧ n ≤ s.2.2) ↔ inR (q66 t r) n := by
 constructor
 ·rintro ⟨s, hs, h1, h2, h3⟩
  simp only [q1u, List.mem_flatMap, List.mem_range, q62, List.mem_map] at hs
  obtain ⟨k, hk, x, hx, rfl⟩ := hs
  simp only [q9a] at h1 h2 h3
  have : k = r := by omega
  subst this
  exact ⟨x, hx, h2, h3⟩
 ·rintro ⟨x, hx, h2, h3⟩
  refine ⟨q9a r x, ?_, rfl, h2, h3⟩
  simp only [q1u, List.mem_flatMap, List.mem_range, q62, List.mem_map]
  exact ⟨r, hr, x, hx, rfl⟩
theorem qgp (t : Tab) {r : Nat} (hr : r < 16) (n : Int) : inP (q67 t) r n ↔ inT t r n := by
 have hc := q1c (t.getD r [])
 have hlead := zj7 hc n
 rw [q2p] at hlead
 have hb := qf7 hc
 have hcl := zl5 t hr n
 have hsz := q9c t 16
 unfold inP inT
 show r < 16 ∧ 1 ≤ n ∧ n ≤ 1000000000 ∧ ((r < ((q2r t 16).take (q2z t 16)).length ∧ n ≤ q1n ((q2r t 16).take (q2z t 16)) r) ∨ ∃ s ∈ q1u t 16, s.1 = (r : Int) ∧ s.2.1 ≤ n ∧ n ≤ s.2.2) ↔ _
 rw [hcl, hlead, List.length_take, q31]
 have hv : r < q2z t 16 → q1n ((q2r t 16).take (q2z t 16)) r = q8y t r := fun h => by
  unfold q1n
  rw [List.getD_eq_getElem?_getD, List.getElem?_take, if_pos h, z90 t hr]
  rfl
 constructor
 ·rintro ⟨_, h1, h2, ⟨h3, h4⟩ | h⟩
  ·rw [hv (by omega)] at h4
   exact .inl ⟨h1, h4⟩
  ·exact .inr h
 ·rintro (⟨h1, h2⟩ | h)
  ·refine ⟨hr, h1, by omega, .inl ?_⟩
   have : r < q2z t 16 := by
    rcases Nat.lt_or_ge r (q2z t 16) with h | h
    ·exact h
    ·have := qev t 16 r hr h
     unfold q8y at this
     omega
   exact ⟨by omega, by rw [hv this]; exact h2⟩
  ·have h1 := hb.1.bound h
   exact ⟨hr, h1.1, h1.2, .inr h⟩
theorem q9n (a b : Int) : q3n a b = true ↔ 0 ≤ a ∧ a < 16 ∧ 1 ≤ b ∧ b ≤ 1000000000 := by
 simp only [q3n, Bool.and_eq_true, decide_eq_true_eq]
theorem q1r (p : Pst) (d : Rn) : q1s p d = true ↔ 0 ≤ d.1 ∧ inP p d.1.toNat d.2 := by
 unfold q1s inP
 rw [Bool.and_eq_true, q9n, Bool.or_eq_true, Bool.and_eq_true, decide_eq_true_eq, decide_eq_true_eq, List.any_eq_true]
 constructor
 ·rintro ⟨⟨h1, h2, h3, h4⟩, h⟩
  refine ⟨h1, by omega, h3, h4, ?_⟩
  rcases h with h | ⟨s, hs, h⟩
  ·exact .inl ⟨by omega, h.2⟩
  ·simp only [zae, Bool.and_eq_true, decide_eq_true_eq] at h
   exact .inr ⟨s, hs, by omega, h.2⟩
 ·rintro ⟨h1, h2, h3, h4, h⟩
  refine ⟨⟨h1, by omega, h3, h4⟩, ?_⟩
  rcases h with h | ⟨s, hs, h⟩
  ·exact .inl ⟨by omega, h.2⟩
  ·refine .inr ⟨s, hs, ?_⟩
   simp only [zae, Bool.and_eq_true, decide_eq_true_eq]
   exact ⟨by omega, h.2⟩
theorem qd7 (ps : List Pst) : (q7k ps).length = 16 := by
 unfold q7k
 rw [List.length_map]
 exact (q1h ps).1
theorem zj2 (ps : List Pst) {r : Nat} (hr : r < 16) : (q7k ps).getD r [] = q0o ((q0l ps).getD r []) := by
 have h := (q1h ps).1
 unfold q7k
 simp [List.getD_eq_getElem?_getD, h, hr]
theorem z7o (r : Nat) (hr : r < 16) (n : Int) : ∀ (ds : List Rn) (t : Tab), t.length = 16 → (inT (ds.foldl q44 t) r n ↔ inT t r n ∨ (1 ≤ n ∧ n ≤ 1000000000 ∧ ((r : Int), n) ∈ ds))
 | [], t, ht => by simp
 | d :: ds, t, ht => by
  have hl : (q44 t d).length = 16 := by
   unfold q44
   split
   ·rw [qa2, ht]
   ·exact ht
  rw [List.foldl_cons, z7o r hr n ds _ hl]
  have hd : inT (q44 t d) r n ↔ inT t r n ∨ (1 ≤ n ∧ n ≤ 1000000000 ∧ ((r : Int), n) = d) := by
   unfold inT mem1 q44
   split
   ·rename_i h
    have hdot := (q9n _ _).1 h
    rw [qa1]
    split
    ·rename_i hk
     rw [q2i, q70]
     constructor
     ·rintro ⟨h1, h2, h3 | h3⟩
      ·exact .inl ⟨h1, h2, h3⟩
      ·exact .inr ⟨h1, h2, Prod.ext (by show (r : Int) = d.1; omega) (by show n = d.2; omega)⟩
     ·rintro (⟨h1, h2, h3⟩ | ⟨h1, h2, rfl⟩)
      ·exact ⟨h1, h2, .inl h3⟩
      ·exact ⟨h1, h2, .inr ⟨Int.le_refl _, Int.le_refl _⟩⟩
    ·rename_i hk
     constructor
     ·exact .inl
     ·rintro (h1 | ⟨h1, h2, rfl⟩)
      ·exact h1
      ·exact absurd ⟨by simp, by omega⟩ hk
   ·rename_i h
    constructor
    ·exact .inl
    ·rintro (h1 | ⟨h1, h2, rfl⟩)
     ·exact h1
     ·exact absurd ((q9n _ _).2 ⟨by omega, by omega, h1, h2⟩) h
  rw [hd, List.mem_cons]
  constructor
  ·rintro ((h | ⟨h1, h2, h3⟩) | ⟨h1, h2, h3⟩)
   ·exact .inl h
   ·exact .inr ⟨h1, h2, .inl h3⟩
   ·exact .inr ⟨h1, h2, .inr h3⟩
  ·rintro (h | ⟨h1, h2, h3 | h3⟩)
   ·exact .inl (.inl h)
   ·exact .inl (.inr ⟨h1, h2, h3⟩)
   ·exact .inr ⟨h1, h2, h3⟩
def q18 (p : Pst) : Pst := q67 (q0l [p])
def q1v (ps : List Pst) : Pst := q67 (q0l ps)
def ofP (ds : List Rn) : Pst := q67 (ofT ds)
theorem ziw (ds : List Rn) {r : Nat} (hr : r < 16) (n : Int) : inP (ofP ds) r n ↔ 1 ≤ n ∧ n ≤ 1000000000 ∧ ((r : Int), n) ∈ ds := by
 unfold ofP
 rw [qgp _ hr]
 unfold ofT
 rw [z7o r hr n ds q6r rfl]
 exact ⟨fun h => h.elim (fun h => absurd h (zar r n)) id, .inr⟩
theorem q5z (ps : List Pst) {r : Nat} (hr : r < 16) (n : Int) : inP (q1v ps) r n ↔ ∃ p ∈ ps, inP p r n := by
 unfold q1v
 rw [qgp _ hr, q69 hr]

def qyk : List SOp := [zO 2 (.assign (.const (.int .i64 0)))]
instance : Live qyk := ⟨[0]⟩
def qyj : List SOp := [zO 3 (.assign (.const (.int .i64 0)))]
instance : Live qyj := ⟨[0]⟩
def qyi : List SOp := [zM 6 0,zO 7 (.call ⟨.value (.func 156),#[.tmp 6],#[149]⟩),zO 8 (.call ⟨.builtin .len,#[.tmp 7],#[149]⟩),zO 9 (.move (.const (.int .i64 0)))]
instance : Live qyi := ⟨[0,3]⟩
def qyh : List SOp := [zO 10 (.binOp .lss 3 (.tmp 9) (.tmp 8) 3)]
instance : Live qyh := ⟨[3,7,8,9]⟩
def qyg : List SOp := [zI 11 149 7 9,zL 12 179 11,zO 5 (.alloc 179),⟨none,.store 179 (.tmp 5) (.tmp 12),none⟩]
instance : Live qyg := ⟨[3,7,8,9]⟩
def qyf : List SOp := [zM 13 3,zF 14 179 5 1,zL 15 3 14,zF 16 179 5 0,zL 17 3 16,zO 18 (.binOp .sub 3 (.tmp 15) (.tmp 17) 3),zO 19 (.binOp .add 3 (.tmp 18) (.const (.int .i64 1)) 3),zO 20 (.binOp .add 3 (.tmp 13) (.tmp 19) 3),zG 3 20]
instance : Live qyf := ⟨[3,5,7,8,9]⟩
def qye : List SOp := [zO 21 (.binOp .add 3 (.tmp 9) (.const (.int .i64 1)) 3),zM 9 21]
instance : Live qye := ⟨[3,7,8,9]⟩
def qyd : List SOp := [zM 22 3,zG 2 22]
instance : Live qyd := ⟨[3]⟩
def qc3 : SC :=
 (.seq (.ops false qyh) (.seq (.cond (.tmp 10) .skip (.exit 0)) (.seq (.block 1 (.seq (.ops false qyg) (.ops false qyf))) (.ops false qye))))
def t_k154 : SC :=
 (.seq (.ops false qyk) (.seq (.ops false qyj) (.seq (.seq (.ops false qyi) (.block 0 (.loop qc3))) (.seq (.ops false qyd) .ret))))
theorem it_k154 : FnIs Tryz.prog 154 23 [.tmp 2] t_k154 := ⟨Tryz.f154, _, Tryz.func154, rfl, rfl, rfl, rfl, by kernel_rfl⟩

def q1g (a : Int) (r : Rn) : Int := a + (r.2 - r.1 + 1)
def qei (m : List Rn) : Int := m.foldl q1g 0
def ziu (m : List Rn) : Prop := ∀ r ∈ m, 1 ≤ r.1 ∧ r.1 ≤ r.2 ∧ r.2 ≤ 1000000000
theorem q8u {m : List Rn} (h : ziu m) (a : Int) : a ≤ m.foldl q1g a ∧ m.foldl q1g a ≤ a + 1000000000 * (m.length : Int) := by
 induction m generalizing a with
 | nil => simp
 | cons r m ih =>
  have h1 := h r (by simp)
  have h2 := ih (fun x hx => h x (by simp [hx])) (q1g a r)
  simp only [List.foldl_cons, List.length_cons]
  unfold q1g at h2 ⊢
  omega
theorem z9g (l m : List Rn) (hm : m.length ≤ 1000000000) (hr : ziu m) (hN : Ev (En Tryz.prog rfl).P 156 [.sl 2 (q07 l)] (.ret (.sl 2 (q07 m)))) : Ev (En Tryz.prog rfl).P 154 [.sl 2 (q07 l)] (.ret (.int .i64 (qei m))) := by
 refine Ev.of_body it_k154 (by simp) (Run.start ?_)
 unfold t_k154
 have e0 : (q07 m).length = m.length := q0v m
 (have hF := True.intro; refine q1j (k:=?_); clear hF)
 refine q2t (l := [.sl 2 (q07 l)]) rfl rfl (by simp [q0j, AVal.stb, q06]) hN ?_
 (have hF := @e0; refine q1j (k:=?_); clear hF)
 refine Run.range m.length (fun i => ⟨tms [(3, .int .i64 ((m.take i).foldl q1g 0)), (7, .sl 2 (q07 m)), (8, .int .i64 m.length), (9, .int .i64 i)], NoM⟩) (Wk.clean _ ⟨rfl, rfl, rfl, rfl, trivial⟩ ⟨rfl, q06 m, rfl, rfl, trivial⟩) (fun i hi => ?_) ?_
 ·obtain ⟨r, hx⟩ : ∃ r, m[i]? = some r := ⟨m[i], by simp [hi]⟩
  have hrr := hr r (List.mem_of_getElem? hx)
  have hb := q8u (m := m.take i) (fun x hx => hr x (List.mem_of_mem_take hx)) 0
  have hlen : (m.take i).length ≤ 1000000000 := by rw [List.length_take]; omega
  rw [q32 q1g 0 m hx]
  generalize (m.take i).foldl q1g 0 = a at hb ⊢
  have e1 : ((i : Int) < (m.length : Int)) = True := by simp only [eq_iff_iff, iff_true]; omega
  have e2 : (0 ≤ (i : Int)) = True := by simp
  have e3 : (q07 m)[i]? = some (.agg [.int .i64 r.1, .int .i64 r.2]) := q3a hx
  have e4 : IntKind.i64.wrap (r.2 - r.1) = r.2 - r.1 := q3f (by omega)
  have e5 : IntKind.i64.wrap (r.2 - r.1 + 1) = r.2 - r.1 + 1 := q3f (by omega)
  have e6 : IntKind.i64.wrap (a + (r.2 - r.1 + 1)) = a + (r.2 - r.1 + 1) := q3f (by omega)
  have e13 : IntKind.i64.wrap ((i : Int) + 1) = ((i + 1 : Nat) : Int) := by rw [q3f (by omega)]; omega
  unfold qc3
  (have hF := (aI (aI (aI @e0 @e1) (aI @e2 @e3)) (aI (aI @e4 @e5) (aI @e6 @e13))); refine q1j (k:=?_); clear hF)
  exact Fin.next (Wk.clean _ ⟨rfl, rfl, rfl, rfl, trivial⟩ ⟨rfl, q06 m, rfl, rfl, trivial⟩)
 ·have e1 : ((m.length : Int) < (m.length : Int)) = False := by simp
  have e3 : m.take m.length = m := List.take_length
  rw [e3]
  unfold qc3
  (have hF := (aI @e0 @e1); refine q1j (k:=?_); clear hF)
  exact Fin.tmp' rfl rfl

def zg9 : List SOp := [zO 2 (.box 26 (.tmp 0)),zO 3 (.box 26 (.tmp 1)),zO 4 (.assign (.const (.bool false)))]
instance : Live zg9 := ⟨[0,1]⟩
def zg8 : List SOp := [zF 7 26 2 0,zL 8 23 7,zO 9 (.call ⟨.builtin .len,#[.tmp 8],#[23]⟩),zF 10 26 3 0,zL 11 23 10,zO 12 (.call ⟨.builtin .len,#[.tmp 11],#[23]⟩),zO 13 (.binOp .neq 3 (.tmp 9) (.tmp 12) 3),zM 14 13,⟨some 15,.fieldAddr 26 (.tmp 2) 1,some ((some 14),false)⟩,⟨some 16,.load 24 (.tmp 15),some ((some 14),false)⟩,⟨some 17,.call ⟨.builtin .len,#[.tmp 16],#[24]⟩,some ((some 14),false)⟩,⟨some 18,.fieldAddr 26 (.tmp 3) 1,some ((some 14),false)⟩,⟨some 19,.load 24 (.tmp 18),some ((some 14),false)⟩,⟨some 20,.call ⟨.builtin .len,#[.tmp 19],#[24]⟩,some ((some 14),false)⟩,⟨some 21,.binOp .neq 3 (.tmp 17) (.tmp 20) 3,some ((some 14),false)⟩,zO 22 (.pick (.tmp 14) (.const (.bool true)) (.tmp 21))]
instance : Live zg8 := ⟨[2,3]⟩
def zg7 : List SOp := [zO 4 (.assign (.const (.bool false)))]
instance : Live zg7 := ⟨[]⟩
def zg6 : List SOp := [zO 5 (.assign (.const (.int .i64 0)))]
instance : Live zg6 := ⟨[2,3]⟩
def zg5 : List SOp := [zM 23 5,zF 24 26 2 0,zL 25 23 24,zO 26 (.call ⟨.builtin .len,#[.tmp 25],#[23]⟩),zO 27 (.binOp .lss 3 (.tmp 23) (.tmp 26) 3)]
instance : Live zg5 := ⟨[2,3,5]⟩
def zg4 : List SOp := [zF 30 26 2 0,zL 31 23 30,zM 32 5,zI 33 23 31 32,zL 34 3 33,zF 35 26 3 0,zL 36 23 35,zM 37 5,zI 38 23 36 37,zL 39 3 38,zO 40 (.binOp .neq 3 (.tmp 34) (.tmp 39) 3)]
instance : Live zg4 := ⟨[2,3,5]⟩
def zg3 : List SOp := [zO 4 (.assign (.const (.bool false)))]
instance : Live zg3 := ⟨[]⟩
def zg2 : List SOp := [zM 28 5,zO 29 (.binOp .add 3 (.tmp 28) (.const (.int .i64 1)) 3),zG 5 29]
instance : Live zg2 := ⟨[2,3,5]⟩
def zg1 : List SOp := [zO 6 (.assign (.const (.int .i64 0)))]
instance : Live zg1 := ⟨[2,3]⟩
def qts : List SOp := [zM 41 6,zF 42 26 2 1,zL 43 24 42,zO 44 (.call ⟨.builtin .len,#[.tmp 43],#[24]⟩),zO 45 (.binOp .lss 3 (.tmp 41) (.tmp 44) 3)]
instance : Live qts := ⟨[2,3,6]⟩
def qtr : List SOp := [zF 48 26 2 1,zL 49 24 48,zM 50 6,zI 51 24 49 50,zL 52 127 51,zF 53 26 3 1,zL 54 24 53,zM 55 6,zI 56 24 54 55,zL 57 127 56,zO 58 (.binOp .neq 127 (.tmp 52) (.tmp 57) 127)]
instance : Live qtr := ⟨[2,3,6]⟩
def qtq : List SOp := [zO 4 (.assign (.const (.bool false)))]
instance : Live qtq := ⟨[]⟩
def qtp : List SOp := [zM 46 6,zO 47 (.binOp .add 3 (.tmp 46) (.const (.int .i64 1)) 3),zG 6 47]
instance : Live qtp := ⟨[2,3,6]⟩
def qto : List SOp := [zO 4 (.assign (.const (.bool true)))]
instance : Live qto := ⟨[]⟩
def qg2 : SC :=
 (.seq (.seq (.ops false zg5) (.cond (.tmp 27) .skip (.exit 0))) (.seq (.block 1 (.seq (.ops true zg4) (.cond (.tmp 40) (.seq (.ops false zg3) .ret) .skip))) (.ops false zg2)))
def qg1 : SC :=
 (.seq (.seq (.ops false qts) (.cond (.tmp 45) .skip (.exit 2))) (.seq (.block 3 (.seq (.ops true qtr) (.cond (.tmp 58) (.seq (.ops false qtq) .ret) .skip))) (.ops false qtp)))
def t_k50 : SC :=
 (.seq (.ops false zg9) (.seq (.seq (.ops false zg8) (.cond (.tmp 22) (.seq (.ops false zg7) .ret) .skip)) (.seq (.seq (.ops false zg6) (.block 0 (.loop qg2))) (.seq (.seq (.ops false zg1) (.block 2 (.loop qg1))) (.seq (.ops false qto) .ret)))))
theorem it_k50 : FnIs Tryz.prog 50 59 [.tmp 4] t_k50 := ⟨Tryz.f50, _, Tryz.func50, rfl, rfl, rfl, rfl, by kernel_rfl⟩

def qq8 (a b : Pst) : Bool := decide (a.vec = b.vec ∧ a.cloud = b.cloud)
theorem q53 {a b : Pst} (h : ¬ (a.vec = b.vec ∧ a.cloud = b.cloud)) : qq8 a b = false := by simp [qq8, h]
theorem qa7 {a b : Pst} (h : a.vec = b.vec ∧ a.cloud = b.cloud) : qq8 a b = true := by simp [qq8, h]
theorem qaw {α : Type} {l m : List α} {i : Nat} {x : α} (h : l.take i = m.take i) (h1 : l[i]? = some x) (h2 : m[i]? = some x) : l.take (i + 1) = m.take (i + 1) := by
 rw [List.take_add_one, List.take_add_one, h, h1, h2]
theorem zk7 (a b : Pst) (ha : a.vec.length ≤ 1000000000) (hb : a.cloud.length ≤ 1000000000) : Ev (En Tryz.prog rfl).P 50 [q0g a, q0g b] (.ret (.bool (qq8 a b))) := by
 refine Ev.of_body it_k50 (by simp) (Run.start ?_)
 have e0 : (q05 a.vec).length = a.vec.length := q0f _
 have e1 : (q05 b.vec).length = b.vec.length := q0f _
 have e2 : (q0d a.cloud).length = a.cloud.length := q1f _
 have e3 : (q0d b.cloud).length = b.cloud.length := q1f _
 unfold t_k50 q0g
 by_cases c1 : a.vec.length = b.vec.length
 ·have d1 : (!decide ((a.vec.length : Int) = (b.vec.length : Int))) = false := by simp; omega
  by_cases c2 : a.cloud.length = b.cloud.length
  ·have d2 : (!decide ((a.cloud.length : Int) = (b.cloud.length : Int))) = false := by simp; omega
   (have hF := (aI (aI @e0 (aI @e1 @e2)) (aI @e3 (aI @d1 @d2))); refine q1j (k:=?_); clear hF)
   refine Run.rangeP a.vec.length (fun i => ⟨tms [(2, .ptr 2 0), (3, .ptr 3 0), (5, .int .i64 i)], mms [(2, .cells [.sl 1 (q05 a.vec), .sl 3 (q0d a.cloud)]), (3, .cells [.sl 1 (q05 b.vec), .sl 3 (q0d b.cloud)])]⟩) (fun i => a.vec.take i = b.vec.take i)
    (Wk.toL _ _ ⟨rfl, rfl, rfl, trivial⟩ ⟨rfl, rfl, trivial⟩ ⟨rfl, rfl, rfl, trivial⟩ ⟨by simp [ABlk.no, AVal.noC, AVal.no, AVal.stb, q02, q03], by simp [ABlk.no, AVal.noC, AVal.no, AVal.stb, q02, q03], trivial⟩) (by simp) (fun i hi hI => ?_) (fun hI => ?_)
   ·obtain ⟨x, hx⟩ : ∃ x, a.vec[i]? = some x := ⟨a.vec[i], by simp [hi]⟩
    obtain ⟨y, hy⟩ : ∃ y, b.vec[i]? = some y := ⟨b.vec[i]'(by omega), by simp [show i < b.vec.length by omega]⟩
    have f1 : ((i : Int) < (a.vec.length : Int)) = True := by simp only [eq_iff_iff, iff_true]; omega
    have f2 : (0 ≤ (i : Int)) = True := by simp
    have f3 : ((i : Int) < (b.vec.length : Int)) = True := by simp only [eq_iff_iff, iff_true]; omega
    have f4 := q0w hx
    have f5 := q0w hy
    have e13 : IntKind.i64.wrap ((i : Int) + 1) = ((i + 1 : Nat) : Int) := by rw [q3f (by omega)]; omega
    unfold qg2
    by_cases c3 : x = y
    ·have d3 : (!decide (x = y)) = false := by simpa using c3
     (have hF := (aI (aI (aI @e0 @e1) (aI @e2 (aI @e3 @f1))) (aI (aI @f2 (aI @f3 @f4)) (aI @f5 (aI @d3 @e13)))); refine q1j (k:=?_); clear hF)
     exact Fin.nextP (Wk.toL _ _ ⟨rfl, rfl, rfl, trivial⟩ ⟨rfl, rfl, trivial⟩ ⟨rfl, rfl, rfl, trivial⟩ ⟨by simp [ABlk.no, AVal.noC, AVal.no, AVal.stb, q02, q03], by simp [ABlk.no, AVal.noC, AVal.no, AVal.stb, q02, q03], trivial⟩) (qaw hI hx (c3 ▸ hy))
    ·have d3 : (!decide (x = y)) = true := by simpa using c3
     rw [q53 (fun h => c3 (by have := hx; rw [h.1, hy] at this; exact (Option.some.inj this).symm))]
     (have hF := (aI (aI (aI @e0 @e1) (aI @e2 (aI @e3 @f1))) (aI (aI @f2 (aI @f3 @f4)) (aI @f5 (aI @d3 @e13)))); refine q1j (k:=?_); clear hF)
     exact Fin.outP_ret (Fin.block_ret (Fin.seq_ret (Fin.tmp' rfl rfl)))
   ·have hv : a.vec = b.vec := by
     rw [List.take_length] at hI
     rw [hI, c1, List.take_length]
    have f1 : ((a.vec.length : Int) < (a.vec.length : Int)) = False := by simp
    unfold qg2
    (have hF := (aI (aI @e0 @e1) (aI @e2 (aI @e3 @f1))); refine q1j (k:=?_); clear hF)
    refine Run.rangeP a.cloud.length (fun i => ⟨tms [(2, .ptr 2 0), (3, .ptr 3 0), (6, .int .i64 i)], mms [(2, .cells [.sl 1 (q05 a.vec), .sl 3 (q0d a.cloud)]), (3, .cells [.sl 1 (q05 b.vec), .sl 3 (q0d b.cloud)])]⟩) (fun i => a.cloud.take i = b.cloud.take i)
     (Wk.toL _ _ ⟨rfl, rfl, rfl, trivial⟩ ⟨rfl, rfl, trivial⟩ ⟨rfl, rfl, rfl, trivial⟩ ⟨by simp [ABlk.no, AVal.noC, AVal.no, AVal.stb, q02, q03], by simp [ABlk.no, AVal.noC, AVal.no, AVal.stb, q02, q03], trivial⟩) (by simp) (fun i hi hI2 => ?_) (fun hI2 => ?_)
    ·obtain ⟨x, hx⟩ : ∃ x, a.cloud[i]? = some x := ⟨a.cloud[i], by simp [hi]⟩
     obtain ⟨y, hy⟩ : ∃ y, b.cloud[i]? = some y := ⟨b.cloud[i]'(by omega), by simp [show i < b.cloud.length by omega]⟩
     have g1 : ((i : Int) < (a.cloud.length : Int)) = True := by simp only [eq_iff_iff, iff_true]; omega
     have g2 : (0 ≤ (i : Int)) = True := by simp
     have g3 : ((i : Int) < (b.cloud.length : Int)) = True := by simp only [eq_iff_iff, iff_true]; omega
     have g4 : (q0d a.cloud)[i]? = some (.agg [.int .i64 x.1, .int .i64 x.2.1, .int .i64 x.2.2]) := q2e hx
     have g5 : (q0d b.cloud)[i]? = some (.agg [.int .i64 y.1, .int .i64 y.2.1, .int .i64 y.2.2]) := q2e hy
     have e13 : IntKind.i64.wrap ((i : Int) + 1) = ((i + 1 : Nat) : Int) := by rw [q3f (by omega)]; omega
     unfold qg1
     by_cases c3 : x = y
     ·have d3 : decide (x.1 = y.1) = true := by simp [c3]
      have d4 : decide (x.2.1 = y.2.1) = true := by simp [c3]
      have d5 : decide (x.2.2 = y.2.2) = true := by simp [c3]
      (have hF := (aI (aI (aI @e0 (aI @e1 @e2)) (aI @e3 (aI @g1 @g2))) (aI (aI @g3 (aI @g4 @g5)) (aI (aI @d3 @d4) (aI @d5 @e13)))); refine q1j (k:=?_); clear hF)
      exact Fin.nextP (Wk.toL _ _ ⟨rfl, rfl, rfl, trivial⟩ ⟨rfl, rfl, trivial⟩ ⟨rfl, rfl, rfl, trivial⟩ ⟨by simp [ABlk.no, AVal.noC, AVal.no, AVal.stb, q02, q03], by simp [ABlk.no, AVal.noC, AVal.no, AVal.stb, q02, q03], trivial⟩) (qaw hI2 hx (c3 ▸ hy))
     ·rw [q53 (fun h => c3 (by have := hx; rw [h.2, hy] at this; exact (Option.some.inj this).symm))]
      by_cases h1 : x.1 = y.1
      ·have d3 : decide (x.1 = y.1) = true := by simpa using h1
       by_cases h2 : x.2.1 = y.2.1
       ·have d4 : decide (x.2.1 = y.2.1) = true := by simpa using h2
        have h3 : ¬ x.2.2 = y.2.2 := fun h3 => c3 (Prod.ext h1 (Prod.ext h2 h3))
        have d5 : decide (x.2.2 = y.2.2) = false := by simpa using h3
        (have hF := (aI (aI (aI @e0 (aI @e1 @e2)) (aI @e3 (aI @g1 @g2))) (aI (aI @g3 (aI @g4 @g5)) (aI (aI @d3 @d4) (aI @d5 @e13)))); refine q1j (k:=?_); clear hF)
        exact Fin.outP_ret (Fin.block_ret (Fin.seq_ret (Fin.tmp' rfl rfl)))
       ·have d4 : decide (x.2.1 = y.2.1) = false := by simpa using h2
        (have hF := (aI (aI (aI @e0 (aI @e1 @e2)) (aI @e3 (aI @g1 @g2))) (aI (aI @g3 (aI @g4 @g5)) (aI @d3 (aI @d4 @e13)))); refine q1j (k:=?_); clear hF)
        exact Fin.outP_ret (Fin.block_ret (Fin.seq_ret (Fin.tmp' rfl rfl)))
      ·have d3 : decide (x.1 = y.1) = false := by simpa using h1
       (have hF := (aI (aI (aI @e0 @e1) (aI @e2 (aI @e3 @g1))) (aI (aI @g2 (aI @g3 @g4)) (aI @g5 (aI @d3 @e13)))); refine q1j (k:=?_); clear hF)
       exact Fin.outP_ret (Fin.block_ret (Fin.seq_ret (Fin.tmp' rfl rfl)))
    ·have hc : a.cloud = b.cloud := by
      rw [List.take_length] at hI2
      rw [hI2, c2, List.take_length]
     have f1 : ((a.cloud.length : Int) < (a.cloud.length : Int)) = False := by simp
     rw [qa7 ⟨hv, hc⟩]
     unfold qg1
     (have hF := (aI (aI @e0 @e1) (aI @e2 (aI @e3 @f1))); refine q1j (k:=?_); clear hF)
     exact Fin.tmp' rfl rfl
  ·rw [q53 (fun h => c2 (by rw [h.2]))]
   have d2 : (!decide ((a.cloud.length : Int) = (b.cloud.length : Int))) = true := by simp; omega
   (have hF := (aI (aI @e0 (aI @e1 @e2)) (aI @e3 (aI @d1 @d2))); refine q1j (k:=?_); clear hF)
   exact Fin.tmp' rfl rfl
 ·rw [q53 (fun h => c1 (by rw [h.1]))]
  have d1 : (!decide ((a.vec.length : Int) = (b.vec.length : Int))) = true := by simp; omega
  (have hF := (aI (aI @e0 @e1) (aI @e2 (aI @e3 @d1))); refine q1j (k:=?_); clear hF)
  exact Fin.tmp' rfl rfl


def z1m : List SOp := [zO 1 (.box 26 (.tmp 0)),zO 2 (.assign (.const (.int .i64 0)))]
instance : Live z1m := ⟨[0]⟩
def z1l : List SOp := [zO 3 (.assign (.const (.int .i64 0)))]
instance : Live z1l := ⟨[1]⟩
def z1k : List SOp := [zL 6 26 1,zO 7 (.buildSlice 116 1 #[(0,.tmp 6)]),zO 8 (.call ⟨.value (.func 96),#[.tmp 7],#[116]⟩),zO 9 (.nilCheck (.tmp 8)),zO 10 (.move (.const (.int .i64 0)))]
instance : Live z1k := ⟨[1,3]⟩
def z1j : List SOp := [zO 11 (.binOp .lss 3 (.tmp 10) (.const (.int .i64 16)) 3)]
instance : Live z1j := ⟨[3,8,10]⟩
def z1i : List SOp := [zO 12 (.nilCheck (.tmp 8)),zI 13 151 12 10,zL 14 149 13,zG 5 14]
instance : Live z1i := ⟨[3,8,10]⟩
def z1h : List SOp := [zM 15 3,zM 16 5,zO 17 (.call ⟨.value (.func 154),#[.tmp 16],#[149]⟩),zO 18 (.binOp .add 3 (.tmp 15) (.tmp 17) 3),zG 3 18]
instance : Live z1h := ⟨[3,5,8,10]⟩
def z1g : List SOp := [zO 19 (.binOp .add 3 (.tmp 10) (.const (.int .i64 1)) 3),zM 10 19]
instance : Live z1g := ⟨[3,8,10]⟩
def z1f : List SOp := [zM 20 3,zG 2 20]
instance : Live z1f := ⟨[3]⟩
def qiy : SC :=
 (.seq (.ops false z1j) (.seq (.cond (.tmp 11) .skip (.exit 0)) (.seq (.block 1 (.seq (.ops false z1i) (.ops false z1h))) (.ops false z1g))))
def t_k132 : SC :=
 (.seq (.ops false z1m) (.seq (.ops false z1l) (.seq (.seq (.ops false z1k) (.block 0 (.loop qiy))) (.seq (.ops false z1f) .ret))))
theorem it_k132 : FnIs Tryz.prog 132 21 [.tmp 2] t_k132 := ⟨Tryz.f132, _, Tryz.func132, rfl, rfl, rfl, rfl, by kernel_rfl⟩

theorem ziv (ds : List Rn) : TabLe (ofT ds) ds.length := by
 have := TabLe.dots qa5 ds
 simpa [ofT] using this
theorem qfg (p : Pst) (hw : wt p ≤ 50000000) : Ev (En Tryz.prog rfl).P 64 [q0g p] (.ret (q0g (q18 p))) :=
 zk5 p _ (by omega) (z7k _ (n := wt p) (by simpa using q1h [p]) hw)
theorem ev_k49 (ps : List Pst) (hl : ps.length ≤ 1000000000) (hw : (ps.map wt).sum ≤ 50000000) : Ev (En Tryz.prog rfl).P 49 [.sl 2 (q1q ps)] (.ret (q0g (q1v ps))) :=
 zk8 ps _ hl (by omega) (z7k _ (q1h ps) hw)
theorem ev_k94 (ds : List Rn) (hl : ds.length ≤ 50000000) : Ev (En Tryz.prog rfl).P 94 [.sl 2 (q07 ds)] (.ret (q0g (ofP ds))) :=
 zk3 ds _ (by omega) (z7k _ (ziv ds) hl)
theorem qft {m : List Rn} (h : Can m) : ziu m := fun r hr => by have := h.2 r hr; unfold okR at this; omega
theorem ev_k154 (l : List Rn) (hl : l.length ≤ 50000000) : Ev (En Tryz.prog rfl).P 154 [.sl 2 (q07 l)] (.ret (.int .i64 (qei (q13 l)))) := by
 have h := q1z l
 exact z9g l (q13 l) (by omega) (qft (q1c l)) (qdp l (by omega))
def q28 (t : Tab) (n : Nat) : Int := (List.range n).foldl (fun a r => a + qei (q13 (t.getD r []))) 0
theorem q5t (t : Tab) (n : Nat) : q28 t (n + 1) = q28 t n + qei (q13 (t.getD n [])) := by
 unfold q28
 rw [List.range_succ, List.foldl_append]
 rfl
theorem qc9 (l : List Rn) {n : Nat} (h : l.length ≤ n) : 0 ≤ qei (q13 l) ∧ qei (q13 l) ≤ 1000000000 * (n : Int) := by
 have h1 := q8u (qft (q1c l)) 0
 have h2 := q1z l
 unfold qei
 omega
theorem q6u {t : Tab} {n : Nat} (h : TabLe t n) : ∀ m : Nat, 0 ≤ q28 t m ∧ q28 t m ≤ (m : Int) * (1000000000 * (n : Int))
 | 0 => by simp [q28]
 | m + 1 => by
  have h1 := q6u h m
  have h2 := qc9 (t.getD m []) (h.2 m)
  rw [q5t, Int.natCast_add, Int.add_mul]
  omega
def q3x (p : Pst) : Int := q28 (q0l [p]) 16
theorem ev_k132 (p : Pst) (hw : wt p ≤ 50000000) : Ev (En Tryz.prog rfl).P 132 [q0g p] (.ret (.int .i64 (q3x p))) := by
 refine Ev.of_body it_k132 (by simp) (Run.start ?_)
 unfold t_k132 q0g
 have ht : TabLe (q0l [p]) (wt p) := by simpa using q1h [p]
 have h16 : (q1w (q0l [p])).length = 16 := by rw [q5e, ht.1]
 (have hF := @h16; refine q01 (k:=?_); clear hF)
 refine q00 [.sl 2 (q1q [p])] (he := qff [p] (by simp) (by simpa using (show wt p ≤ 900000000 by omega))) (k:=?_)
 (have hF := @h16; refine q01 (k:=?_); clear hF)
 have hs : q3x p = q28 (q0l [p]) 16 := rfl
 rw [hs]
 generalize q0l [p] = t at ht h16 ⊢
 refine Run.while (σ := Nat) (fun r => ⟨tms [(3, .int .i64 (q28 t r)), (8, .sptr (q1w t)), (10, .int .i64 r)], NoM⟩) (fun r => r ≤ 16) (fun r => 16 - r) 0 (Wk.clean _ ⟨rfl, rfl, rfl, trivial⟩ ⟨rfl, q1b t, rfl, trivial⟩) (Nat.zero_le _) ?_
 intro r hr
 unfold qiy
 by_cases hlt : r < 16
 ·have hrt : r < t.length := by rw [ht.1]; exact hlt
  have hq := ht.2 r
  have g1 := q7t (q6k hrt)
  have hb := q6u ht r
  have hb2 := qc9 (t.getD r []) hq
  have hnx := q5t t r
  have hr16 : (r : Int) * (1000000000 * (wt p : Int)) ≤ 16 * (1000000000 * (wt p : Int)) := Int.mul_le_mul_of_nonneg_right (by omega) (by omega)
  (have hF := (aI @h16 @g1); refine q01 (k:=?_); clear hF)
  refine q00 [.sl 2 (q07 (t.getD r []))] (he := ev_k154 _ (by omega)) (k:=?_)
  (have hF := (aI @h16 @g1); refine q01 (k:=?_); clear hF)
  apply Fin.nextW (r + 1)
  case h => exact Wk.clean _ ⟨by simp [↓q6t, ↓q3v, hnx], rfl, rfl, trivial⟩ ⟨rfl, q1b t, rfl, trivial⟩
  omega
 ·rw [show r = 16 by omega]
  (have hF := @h16; refine q01 (k:=?_); clear hF)
  exact Fin.tmp' rfl rfl
theorem qaz {l c : List Rn} (hc : q0t l = c) (h : c.Pairwise leLo) : q13 l = c.foldl qef [] := by
 subst hc
 exact (z6v h (List.Perm.refl _)).symm
theorem zjp (t : Tab) (r : Nat) : q13 (t.getD r []) = (t.map q13).getD r [] := by
 simp only [List.getD_eq_getElem?_getD, List.getElem?_map]
 cases t[r]? with
 | none => exact q5v Can.nil
 | some l => rfl
def pastN (m : Tab) : Pst :=
 ⟨((List.range 16).map fun r => (q1p (m.getD r [])).1).take ((List.range 16).foldl (fun a r => if 0 < (q1p (m.getD r [])).1 then r + 1 else a) 0), (List.range 16).flatMap fun r => (q1p (m.getD r [])).2.map (q9a r)⟩
theorem qgq (t : Tab) : q67 t = pastN (t.map q13) := by
 unfold q67 pastN q2r q2z q1u q62 q66 q8y
 simp only [zjp]

theorem qo9 {t t' : Tab} (h : t.length = 16) (h' : t'.length = 16) (hx : ∀ r, r < 16 → ∀ n, inT t r n ↔ inT t' r n) : q67 t = q67 t' := by
 have : t.map q13 = t'.map q13 := by
  refine List.ext_getElem (by simp [h, h']) fun i h1 h2 => ?_
  rw [List.length_map] at h1 h2
  rw [List.getElem_map, List.getElem_map]
  refine ziz fun n => ?_
  have := hx i (by omega) n
  unfold inT at this
  simpa [List.getD_eq_getElem?_getD, h1, h2] using this
 rw [qgq, qgq, this]
theorem zjb {ps qs : List Pst} (h : ∀ r, r < 16 → ∀ n, (∃ p ∈ ps, inP p r n) ↔ ∃ p ∈ qs, inP p r n) : q1v ps = q1v qs :=
 qo9 (q1h ps).1 (q1h qs).1 fun r hr n => by rw [q69 hr, q69 hr, h r hr]
theorem z8r (p : Pst) : q18 p = q1v [p] := rfl
theorem qgs (p : Pst) {r : Nat} (hr : r < 16) (n : Int) : inP (q18 p) r n ↔ inP p r n := by
 rw [z8r, q5z _ hr]; simp
theorem zj0 {p q : Pst} (h : ∀ r, r < 16 → ∀ n, inP p r n ↔ inP q r n) : q18 p = q18 q := zjb fun r hr n => by simp [h r hr]
def CanP (p : Pst) : Prop := q18 p = p
theorem qrc (t : Tab) (h : t.length = 16) : CanP (q67 t) := qo9 (q1h _).1 h fun r hr n => by rw [q69 hr]; simp [qgp t hr]
theorem q2f (ps : List Pst) : CanP (q1v ps) := qrc _ (q1h ps).1
theorem q9y (p : Pst) : CanP (q18 p) := q2f [p]
theorem CanP.ext {p q : Pst} (hp : CanP p) (hq : CanP q) (h : ∀ r, r < 16 → ∀ n, inP p r n ↔ inP q r n) : p = q := by
 rw [← hp, ← hq]
 exact zj0 h
def tot (t : Tab) : Nat := (t.map List.length).sum
theorem zaw : ∀ (l : List Nat) (i : Nat), (l.getD i 0) ≤ l.sum
 | [], i => by simp
 | x :: l, 0 => by simp
 | x :: l, i + 1 => by have := zaw l i; simp at this ⊢; omega
theorem qeu : ∀ (t : Tab) (r : Nat) (l : List Rn), ((t.set r l).map List.length).sum ≤ (t.map List.length).sum + (l.length - (t.getD r []).length)
 | [], r, l => by simp
 | x :: t, 0, l => by simp; omega
 | x :: t, r + 1, l => by have := qeu t r l; simp at this ⊢; omega
theorem qq1 (t : Tab) (r : Nat) (x : Rn) : tot (q6q t r x) ≤ tot t + 1 := by
 have := qeu t r (t.getD r [] ++ [x])
 unfold tot q6q
 simp only [List.length_append, List.length_cons, List.length_nil] at this
 omega
theorem qid (v : List Int) (t : Tab) : ∀ i, tot ((List.range i).foldl (q3l v) t) ≤ tot t + i
 | 0 => Nat.le_refl _
 | i + 1 => by
  rw [q7y]
  have h1 := qid v t i
  have h2 := qq1 ((List.range i).foldl (q3l v) t) i (1, q1n v i)
  unfold q3l at *
  omega
theorem qie : ∀ (c : List Sn) (t : Tab), tot (q4k c t) ≤ tot t + c.length
 | [], t => Nat.le_refl _
 | s :: c, t => by
  have h1 := qie c (putSn t s)
  have h2 : tot (putSn t s) ≤ tot t + 1 := by
   unfold putSn
   split
   ·exact qq1 _ _ _
   ·omega
  show tot (q4k c (putSn t s)) ≤ _
  simp only [List.length_cons]
  omega
theorem qrq : ∀ (ps : List Pst) (t : Tab), tot (ps.foldl q1k t) ≤ tot t + (ps.map wt).sum
 | [], t => Nat.le_refl _
 | p :: ps, t => by
  have h1 := qrq ps (q1k t p)
  have h2 : tot (q1k t p) ≤ tot t + wt p := by
   have a := qid p.vec t (min p.vec.length 16)
   have b := qie p.cloud (q5l p.vec t)
   unfold q1k q5l wt at *
   omega
  simp only [List.foldl_cons, List.map_cons, List.sum_cons]
  omega
theorem qc1 (ps : List Pst) : tot (q0l ps) ≤ (ps.map wt).sum := by
 have h0 : tot q6r = 0 := by decide
 have := qrq ps q6r
 unfold q0l
 omega
theorem qrr : ∀ (ds : List Rn) (t : Tab), tot (ds.foldl q44 t) ≤ tot t + ds.length
 | [], t => Nat.le_refl _
 | d :: ds, t => by
  have h1 := qrr ds (q44 t d)
  have h2 : tot (q44 t d) ≤ tot t + 1 := by
   unfold q44
   split
   ·exact qq1 _ _ _
   ·omega
  simp only [List.foldl_cons, List.length_cons]
  omega
theorem tot_ofT (ds : List Rn) : tot (ofT ds) ≤ ds.length := by
 have h0 : tot q6r = 0 := by decide
 have := qrr ds q6r
 unfold ofT
 omega
theorem qsj (t : Tab) : ∀ m, (q1u t m).length ≤ ((List.range m).map fun r => (t.getD r []).length).sum
 | 0 => by simp [q1u]
 | m + 1 => by
  rw [q76, List.length_append, List.range_succ, List.map_append, List.sum_append]
  have h1 := qsj t m
  have h2 : (q62 t m).length ≤ (t.getD m []).length := by
   have a := qad (q13 (t.getD m []))
   have b := q1z (t.getD m [])
   simp only [q62, q66, List.length_map]
   omega
  simp only [List.map_cons, List.map_nil, List.sum_cons, List.sum_nil]
  omega
theorem qa9 : ∀ (t : Tab), ((List.range t.length).map fun r => (t.getD r []).length).sum = tot t
 | t => by
  unfold tot
  congr 1
  refine List.ext_getElem (by simp) fun i h1 h2 => ?_
  simp at h1 h2 ⊢
  simp [h1]
theorem qcv {t : Tab} (h : t.length = 16) : wt (q67 t) ≤ 16 + tot t := by
 have h1 := qsj t 16
 have h2 := qa9 t
 rw [h] at h2
 show ((q2r t 16).take (q2z t 16)).length + (q1u t 16).length ≤ _
 rw [List.length_take, q31]
 omega
theorem q9m (ps : List Pst) : wt (q1v ps) ≤ 16 + (ps.map wt).sum := by
 have h1 := qcv (q1h ps).1
 have h2 := qc1 ps
 show wt (q67 (q0l ps)) ≤ _
 omega
theorem ofP_wt (ds : List Rn) : wt (ofP ds) ≤ 16 + ds.length := by
 have h1 := qcv (ziv ds).1
 have h2 := tot_ofT ds
 show wt (q67 (ofT ds)) ≤ _
 omega
theorem q5w (p : Pst) : wt (q18 p) ≤ wt p + 16 := by
 have := q9m [p]
 simp only [List.map_cons, List.map_nil, List.sum_cons, List.sum_nil] at this
 show wt (q1v [p]) ≤ _
 omega
theorem n9_ex : ∃ N : Nat, N = 1000000000 := ⟨_, rfl⟩
noncomputable def n9 : Nat := Classical.choose n9_ex
theorem n9_eq : n9 = 1000000000 := Classical.choose_spec n9_ex
open Classical in
noncomputable def q91 (q : Int → Prop) : Nat := (List.range n9).countP fun (i : Nat) => decide (q ((i : Int) + 1))
open Classical in
theorem q64 (q : Int → Prop) : q91 q = (List.range n9).countP fun (i : Nat) => decide (q ((i : Int) + 1)) := rfl
open Classical in
theorem qfo {α : Type} (p q r s : α → Prop) (l : List α) (h : ∀ x, (if p x then 1 else 0) + (if q x then 1 else 0) = (if r x then 1 else 0) + (if s x then 1 else 0)) :
 l.countP (fun x => decide (p x)) + l.countP (fun x => decide (q x)) = l.countP (fun x => decide (r x)) + l.countP (fun x => decide (s x)) := by
 induction l with
 | nil => rfl
 | cons x l ih =>
  have := h x
  simp only [List.countP_cons, decide_eq_true_eq]
  omega
open Classical in
theorem z9x (p q : Int → Prop) : q91 (fun n => p n ∨ q n) + q91 (fun n => p n ∧ q n) = q91 p + q91 q := by
 simp only [q64]
 refine qfo _ _ _ _ _ fun x => ?_
 by_cases h1 : p ((x : Int) + 1) <;> by_cases h2 : q ((x : Int) + 1) <;> simp [h1, h2]
open Classical in
theorem zld (p q : Int → Prop) : q91 (fun n => p n ∧ ¬ q n) + q91 (fun n => p n ∧ q n) = q91 p := by
 have h0 : q91 (fun _ => False) = 0 := by simp [q64]
 have := qfo (fun i : Nat => p ((i : Int) + 1) ∧ ¬ q ((i : Int) + 1)) (fun i : Nat => p ((i : Int) + 1) ∧ q ((i : Int) + 1)) (fun i : Nat => p ((i : Int) + 1)) (fun i : Nat => False) (List.range n9) (fun x => by
  by_cases h1 : p ((x : Int) + 1) <;> by_cases h2 : q ((x : Int) + 1) <;> simp [h1, h2])
 simp only [q64] at h0 ⊢
 omega
theorem q6p {p q : Int → Prop} (h : ∀ n, 1 ≤ n → n ≤ 1000000000 → (p n ↔ q n)) : q91 p = q91 q := by
 classical
 simp only [q64]
 refine List.countP_congr fun i hi => ?_
 rw [List.mem_range, n9_eq] at hi
 simp only [decide_eq_true_eq]
 exact h _ (by omega) (by omega)
theorem qdw (a b : Nat) : ∀ N : Nat, (List.range N).countP (fun i => decide (a ≤ i ∧ i < b)) = min N b - min N a
 | 0 => by simp
 | N + 1 => by
  rw [List.range_succ, List.countP_append, qdw a b N]
  by_cases h : a ≤ N ∧ N < b
  ·simp only [List.countP_cons, List.countP_nil, h, and_self, decide_true, if_true]
   omega
  ·simp only [List.countP_cons, List.countP_nil, h, decide_false, Bool.false_eq_true, if_false]
   omega
theorem z7v {a b : Int} (h1 : 1 ≤ a) (h2 : a ≤ b) (h3 : b ≤ 1000000000) : (q91 (fun n => a ≤ n ∧ n ≤ b) : Int) = b - a + 1 := by
 classical
 have h : q91 (fun n => a ≤ n ∧ n ≤ b) = min n9 b.toNat - min n9 (a - 1).toNat := by
  rw [← qdw (a - 1).toNat b.toNat n9, q64]
  refine List.countP_congr fun i hi => ?_
  simp only [decide_eq_true_eq]
  omega
 rw [h, n9_eq]
 omega
theorem q8j (m : List Rn) (a : Int) : m.foldl q1g a = a + m.foldl q1g 0 := by
 induction m generalizing a with
 | nil => simp
 | cons x m ih =>
  simp only [List.foldl_cons]
  rw [ih, ih (q1g 0 x)]
  unfold q1g
  omega
theorem qew : ∀ {m : List Rn}, Can m → qei m = (q91 (inR m) : Int)
 | [], _ => by
  have : q91 (inR []) = 0 := by
   classical
   rw [q64]
   exact List.countP_eq_zero.2 fun i _ => by simp [q29]
  rw [this]; rfl
 | x :: m, h => by
  have hx := (Can.cons_iff.1 h).1
  unfold okR at hx
  have ih := qew h.tail
  have h1 := z7v hx.1 hx.2.1 hx.2.2
  have h2 := z9x (fun n => x.1 ≤ n ∧ n ≤ x.2) (inR m)
  have h3 : q91 (fun n => (x.1 ≤ n ∧ n ≤ x.2) ∧ inR m n) = 0 := by
   classical
   rw [q64]
   refine List.countP_eq_zero.2 fun i _ => ?_
   simp only [decide_eq_true_eq]
   rintro ⟨q1, q2⟩
   have := h.above q2
   omega
  have h4 : q91 (inR (x :: m)) = q91 (fun n => (x.1 ≤ n ∧ n ≤ x.2) ∨ inR m n) := q6p fun n _ _ => q0u x m n
  unfold qei at *
  rw [List.foldl_cons, q8j, ih, h4]
  unfold q1g
  omega
noncomputable def qb8 (q : Nat → Int → Prop) : Nat → Nat
 | 0 => 0
 | m + 1 => qb8 q m + q91 (q m)
theorem qe8 {q q' : Nat → Int → Prop} : ∀ {m : Nat}, (∀ r, r < m → ∀ n, 1 ≤ n → n ≤ 1000000000 → (q r n ↔ q' r n)) → qb8 q m = qb8 q' m
 | 0, _ => rfl
 | m + 1, h => by
  show qb8 q m + q91 (q m) = qb8 q' m + q91 (q' m)
  rw [qe8 (m := m) fun r hr => h r (by omega), q6p (h m (by omega))]
theorem qay (t : Tab) : ∀ m, q28 t m = (qb8 (inT t) m : Int)
 | 0 => rfl
 | m + 1 => by
  rw [q5t, qay t m, qew (q1c _)]
  show _ = ((qb8 (inT t) m + q91 (inT t m) : Nat) : Int)
  rw [q6p (p := inR (q13 (t.getD m []))) (q := inT t m) fun n _ _ => q2p _ n]
  omega
theorem qex (p : Pst) : q3x p = (qb8 (inP p) 16 : Int) := by
 unfold q3x
 rw [qay]
 congr 1
 exact qe8 fun r hr n _ _ => by rw [q69 hr]; simp

def z6d : List SOp := [zO 4 (.assign (.const (.bool false)))]
instance : Live z6d := ⟨[0,1]⟩
def z6c : List SOp := [zM 6 0,zO 7 (.call ⟨.builtin .len,#[.tmp 6],#[23]⟩),zM 8 1,zO 9 (.call ⟨.builtin .len,#[.tmp 8],#[23]⟩),zO 10 (.binOp .neq 3 (.tmp 7) (.tmp 9) 3)]
instance : Live z6c := ⟨[0,1]⟩
def z6b : List SOp := [zO 4 (.assign (.const (.bool false)))]
instance : Live z6b := ⟨[]⟩
def z6a : List SOp := [zM 11 0,zO 12 (.call ⟨.builtin .len,#[.tmp 11],#[23]⟩),zO 13 (.move (.const (.int .i64 0)))]
instance : Live z6a := ⟨[0,1]⟩
def z69 : List SOp := [zO 14 (.binOp .lss 3 (.tmp 13) (.tmp 12) 3)]
instance : Live z69 := ⟨[0,1,12,13]⟩
def z68 : List SOp := [zM 15 13,zG 5 15]
instance : Live z68 := ⟨[0,1,12,13]⟩
def z67 : List SOp := [zM 16 0,zM 17 5,zI 18 23 16 17,zL 19 3 18,zM 20 1,zM 21 5,zI 22 23 20 21,zL 23 3 22,zO 24 (.binOp .neq 3 (.tmp 19) (.tmp 23) 3)]
instance : Live z67 := ⟨[0,1,5,12,13]⟩
def z65 : List SOp := [zO 4 (.assign (.const (.bool false)))]
instance : Live z65 := ⟨[]⟩
def z64 : List SOp := [zO 25 (.binOp .add 3 (.tmp 13) (.const (.int .i64 1)) 3),zM 13 25]
instance : Live z64 := ⟨[0,1,12,13]⟩
def qo7 : List SOp := [zO 4 (.assign (.const (.bool true)))]
instance : Live qo7 := ⟨[]⟩
def qjk : SC :=
 (.seq (.ops false z69) (.seq (.cond (.tmp 14) .skip (.exit 0)) (.seq (.block 1 (.seq (.ops false z68) (.seq (.ops true z67) (.cond (.tmp 24) (.seq (.ops false z65) .ret) .skip)))) (.ops false z64))))
def t_k103 : SC :=
 (.seq (.ops false z6d) (.seq (.seq (.ops false z6c) (.cond (.tmp 10) (.seq (.ops false z6b) .ret) .skip)) (.seq (.seq (.ops false z6a) (.block 0 (.loop qjk))) (.seq (.ops false qo7) .ret))))
theorem it_k103 : FnIs Tryz.prog 103 26 [.tmp 4] t_k103 := ⟨Tryz.f103, _, Tryz.func103, rfl, rfl, rfl, rfl, by kernel_rfl⟩

def z63 : List SOp := [zO 4 (.assign (.const (.bool false)))]
instance : Live z63 := ⟨[0,1]⟩
def z62 : List SOp := [zM 6 0,zO 7 (.call ⟨.builtin .len,#[.tmp 6],#[24]⟩),zM 8 1,zO 9 (.call ⟨.builtin .len,#[.tmp 8],#[24]⟩),zO 10 (.binOp .neq 3 (.tmp 7) (.tmp 9) 3)]
instance : Live z62 := ⟨[0,1]⟩
def z61 : List SOp := [zO 4 (.assign (.const (.bool false)))]
instance : Live z61 := ⟨[]⟩
def z60 : List SOp := [zM 11 0,zO 12 (.call ⟨.builtin .len,#[.tmp 11],#[24]⟩),zO 13 (.move (.const (.int .i64 0)))]
instance : Live z60 := ⟨[0,1]⟩
def z5z : List SOp := [zO 14 (.binOp .lss 3 (.tmp 13) (.tmp 12) 3)]
instance : Live z5z := ⟨[0,1,12,13]⟩
def z5y : List SOp := [zM 15 13,zG 5 15]
instance : Live z5y := ⟨[0,1,12,13]⟩
def z5x : List SOp := [zM 16 0,zM 17 5,zI 18 24 16 17,zL 19 127 18,zM 20 1,zM 21 5,zI 22 24 20 21,zL 23 127 22,zO 24 (.binOp .neq 127 (.tmp 19) (.tmp 23) 127)]
instance : Live z5x := ⟨[0,1,5,12,13]⟩
def z5w : List SOp := [zO 4 (.assign (.const (.bool false)))]
instance : Live z5w := ⟨[]⟩
def z5v : List SOp := [zO 25 (.binOp .add 3 (.tmp 13) (.const (.int .i64 1)) 3),zM 13 25]
instance : Live z5v := ⟨[0,1,12,13]⟩
def qo6 : List SOp := [zO 4 (.assign (.const (.bool true)))]
instance : Live qo6 := ⟨[]⟩
def qjj : SC :=
 (.seq (.ops false z5z) (.seq (.cond (.tmp 14) .skip (.exit 0)) (.seq (.block 1 (.seq (.ops false z5y) (.seq (.ops true z5x) (.cond (.tmp 24) (.seq (.ops false z5w) .ret) .skip)))) (.ops false z5v))))
def t_k104 : SC :=
 (.seq (.ops false z63) (.seq (.seq (.ops false z62) (.cond (.tmp 10) (.seq (.ops false z61) .ret) .skip)) (.seq (.seq (.ops false z60) (.block 0 (.loop qjj))) (.seq (.ops false qo6) .ret))))
theorem it_k104 : FnIs Tryz.prog 104 26 [.tmp 4] t_k104 := ⟨Tryz.f104, _, Tryz.func104, rfl, rfl, rfl, rfl, by kernel_rfl⟩

def zfm : List SOp := [zO 1 (.box 26 (.tmp 0)),zO 2 (.assign (.const (.bool false)))]
instance : Live zfm := ⟨[0]⟩
def zfl : List SOp := [zL 4 26 1,zO 5 (.call ⟨.value (.func 64),#[.tmp 4],#[26]⟩),zO 3 (.alloc 26),⟨none,.store 26 (.tmp 3) (.tmp 5),none⟩]
instance : Live zfl := ⟨[1]⟩
def zfk : List SOp := [zF 6 26 1 0,zL 7 23 6,zF 8 26 3 0,zL 9 23 8,zO 10 (.call ⟨.value (.func 103),#[.tmp 7,.tmp 9],#[23,23]⟩),zM 11 10,⟨some 12,.fieldAddr 26 (.tmp 1) 1,some ((some 11),true)⟩,⟨some 13,.load 24 (.tmp 12),some ((some 11),true)⟩,⟨some 14,.fieldAddr 26 (.tmp 3) 1,some ((some 11),true)⟩,⟨some 15,.load 24 (.tmp 14),some ((some 11),true)⟩,⟨some 16,.call ⟨.value (.func 104),#[.tmp 13,.tmp 15],#[24,24]⟩,some ((some 11),true)⟩,zO 17 (.pick (.tmp 11) (.tmp 16) (.const (.bool false))),zG 2 17]
instance : Live zfk := ⟨[1,3]⟩
def t_k54 : SC :=
 (.seq (.ops false zfm) (.seq (.ops false zfl) (.seq (.ops false zfk) .ret)))
theorem it_k54 : FnIs Tryz.prog 54 18 [.tmp 2] t_k54 := ⟨Tryz.f54, _, Tryz.func54, rfl, rfl, rfl, rfl, by kernel_rfl⟩

theorem q30 {α : Type} {a b : List α} (hl : a.length = b.length) (h : ∀ j, j < a.length → a[j]? = b[j]?) : a = b := by
 refine List.ext_getElem? fun j => ?_
 by_cases hj : j < a.length
 ·exact h j hj
 ·rw [List.getElem?_eq_none (by omega), List.getElem?_eq_none (by omega)]
theorem q6f {α : Type} {a b : List α} {i : Nat} (h : ∀ j, j < i → a[j]? = b[j]?) (hi : a[i]? = b[i]?) : ∀ j, j < i + 1 → a[j]? = b[j]? := fun j hj => by
 by_cases e : j = i
 ·rw [e]; exact hi
 ·exact h j (by omega)
theorem ev_k103 (a b : List Int) (ha : a.length ≤ 1000000000) (hb : b.length ≤ 1000000000) : Ev (En Tryz.prog rfl).P 103 [.sl 1 (q05 a), .sl 1 (q05 b)] (.ret (.bool (decide (a = b)))) := by
 refine Ev.of_body it_k103 (by simp) (Run.start ?_)
 unfold t_k103
 have e1 := q0f a
 have e2 := q0f b
 (focus (have hF := (aI @e1 @e2); (repeat' (first | refine go1 (k:=?_) | with_reducible refine Ny.of ?_ ?_ | (refine Hyp.of ?_; intro hc; (try simp only [hc]); (try simp only [Bh] at hc)))); all_goals clear hF))
 ·rw [decide_eq_false fun h => hc (by rw [h])]
  exact Fin.tmp' rfl rfl
 ·refine Run.while (σ := Nat) (fun i => ⟨tms [(0, .sl 1 (q05 a)), (1, .sl 1 (q05 b)), (12, .int .i64 (a.length : Int)), (13, .int .i64 (i : Int))], mms []⟩) (fun i => i ≤ a.length ∧ ∀ j, j < i → a[j]? = b[j]?) (fun i => a.length - i) 0 (have hW := @q02; q0h) ⟨Nat.zero_le _, fun j hj => absurd hj (Nat.not_lt_zero _)⟩ ?_
  rintro i ⟨hi, hp⟩
  unfold qjk
  by_cases hlt : i < a.length
  ·obtain ⟨x, hx⟩ : ∃ x, a[i]? = some x := ⟨a[i], by simp [hlt]⟩
   obtain ⟨y, hy⟩ : ∃ y, b[i]? = some y := ⟨b[i]'(by omega), by simp [show i < b.length by omega]⟩
   have g1 := q0w hx
   have g2 := q0w hy
   (focus (have hF := (aI (aI @e1 @e2) (aI @g1 @g2)); (repeat' (first | refine go1 (k:=?_) | with_reducible refine Ny.of ?_ ?_ | (refine Hyp.of ?_; intro hc; (try simp only [hc]); (try simp only [Bh] at hc)))); all_goals clear hF))
   ·rw [decide_eq_false fun h => hc (by rw [h, hy] at hx; exact (Option.some.inj hx).symm)]
    exact Fin.tmp' rfl rfl
   ·have hs := q6f hp (hx.trans ((congrArg some hc).trans hy.symm))
    (refine Fin.nextW (i + 1) ?_ (have hW := @q02; q0h); (try dsimp only))
    exact ⟨⟨hlt, hs⟩, by omega⟩
  ·rw [decide_eq_true (q30 (by omega) fun j hj => hp j (by omega))]
   (have hF := (aI @e1 @e2); refine q01 (k:=?_); clear hF)
   exact Fin.tmp' rfl rfl
theorem ev_k104 (a b : List Sn) (ha : a.length ≤ 1000000000) (hb : b.length ≤ 1000000000) : Ev (En Tryz.prog rfl).P 104 [.sl 3 (q0d a), .sl 3 (q0d b)] (.ret (.bool (decide (a = b)))) := by
 refine Ev.of_body it_k104 (by simp) (Run.start ?_)
 unfold t_k104
 have e1 := q1f a
 have e2 := q1f b
 (focus (have hF := (aI @e1 @e2); (repeat' (first | refine go1 (k:=?_) | with_reducible refine Ny.of ?_ ?_ | (refine Hyp.of ?_; intro hc; (try simp only [hc]); (try simp only [Bh] at hc)))); all_goals clear hF))
 ·rw [decide_eq_false fun h => hc (by rw [h])]
  exact Fin.tmp' rfl rfl
 ·refine Run.while (σ := Nat) (fun i => ⟨tms [(0, .sl 3 (q0d a)), (1, .sl 3 (q0d b)), (12, .int .i64 (a.length : Int)), (13, .int .i64 (i : Int))], mms []⟩) (fun i => i ≤ a.length ∧ ∀ j, j < i → a[j]? = b[j]?) (fun i => a.length - i) 0 (have hW := @q03; q0h) ⟨Nat.zero_le _, fun j hj => absurd hj (Nat.not_lt_zero _)⟩ ?_
  rintro i ⟨hi, hp⟩
  unfold qjj
  by_cases hlt : i < a.length
  ·obtain ⟨x, hx⟩ : ∃ x, a[i]? = some x := ⟨a[i], by simp [hlt]⟩
   obtain ⟨y, hy⟩ : ∃ y, b[i]? = some y := ⟨b[i]'(by omega), by simp [show i < b.length by omega]⟩
   have g1 := q2e hx
   have g2 := q2e hy
   (focus (have hF := (aI (aI @e1 @e2) (aI @g1 @g2)); (repeat' (first | refine go1 (k:=?_) | with_reducible refine Ny.of ?_ ?_ | (refine Hyp.of ?_; intro hc; (try simp only [hc]); (try simp only [Bh] at hc)))); all_goals clear hF))
   ·rw [decide_eq_false fun h => by
     rw [h, hy] at hx
     have := Option.some.inj hx
     subst this
     simp at hc]
    exact Fin.tmp' rfl rfl
   ·have hxy : x = y := Prod.ext hc.1 (Prod.ext hc.2.1 hc.2.2)
    have hs := q6f hp (hx.trans ((congrArg some hxy).trans hy.symm))
    (refine Fin.nextW (i + 1) ?_ (have hW := @q03; q0h); (try dsimp only))
    exact ⟨⟨hlt, hs⟩, by omega⟩
  ·rw [decide_eq_true (q30 (by omega) fun j hj => hp j (by omega))]
   (have hF := (aI @e1 @e2); refine q01 (k:=?_); clear hF)
   exact Fin.tmp' rfl rfl
def q1e (p : Pst) : Bool := decide (p.vec = (q18 p).vec) && decide (p.cloud = (q18 p).cloud)
theorem q3g {p : Pst} : q1e p = true ↔ CanP p := by
 unfold q1e CanP
 rw [Bool.and_eq_true, decide_eq_true_eq, decide_eq_true_eq]
 constructor
 ·rintro ⟨h1, h2⟩
  have : ∀ q : Pst, p.vec = q.vec → p.cloud = q.cloud → q = p := fun q a b => by cases p; cases q; simp at a b; rw [a, b]
  exact this _ h1 h2
 ·intro h
  rw [h]
  exact ⟨rfl, rfl⟩
theorem qow (p : Pst) (hw : wt p ≤ 40000000) : Ev (En Tryz.prog rfl).P 54 [q0g p] (.ret (.bool (q1e p))) := by
 refine Ev.of_body it_k54 (by simp) (Run.start ?_)
 unfold t_k54 q0g
 have c1 := qfg p (by omega)
 have hn := q5w p
 have hw1 : p.vec.length + p.cloud.length = wt p := rfl
 have hw2 : (q18 p).vec.length + (q18 p).cloud.length = wt (q18 p) := rfl
 have c2 := ev_k103 p.vec (q18 p).vec (by omega) (by omega)
 have c3 := ev_k104 p.cloud (q18 p).cloud (by omega) (by omega)
 (have hF := True.intro; refine q01 (k:=?_); clear hF)
 refine q00 [q0g p] (he := c1) (k:=?_)
 unfold q0g
 (have hF := True.intro; refine q01 (k:=?_); clear hF)
 by_cases hv : p.vec = (q18 p).vec
 ·have hr : q1e p = decide (p.cloud = (q18 p).cloud) := by unfold q1e; rw [decide_eq_true hv]; rfl
  rw [decide_eq_true hv] at c2
  rw [hr]
  refine q00 [.sl 1 (q05 p.vec), .sl 1 (q05 (q18 p).vec)] (he := c2) (k:=?_)
  (have hF := True.intro; refine q01 (k:=?_); clear hF)
  refine q00 [.sl 3 (q0d p.cloud), .sl 3 (q0d (q18 p).cloud)] (he := c3) (k:=?_)
  (have hF := True.intro; refine q01 (k:=?_); clear hF)
  exact Fin.tmp' rfl rfl
 ·have hr : q1e p = false := by unfold q1e; rw [decide_eq_false hv]; rfl
  rw [decide_eq_false hv] at c2
  rw [hr]
  refine q00 [.sl 1 (q05 p.vec), .sl 1 (q05 (q18 p).vec)] (he := c2) (k:=?_)
  (have hF := True.intro; refine q01 (k:=?_); clear hF)
  exact Fin.tmp' rfl rfl

def qw9 : List SOp := [zO 2 (.assign (.const (.bool false)))]
instance : Live qw9 := ⟨[0]⟩
def qw8 : List SOp := [zM 3 0,zM 4 0,zO 5 (.binOp .neq 3 (.tmp 3) (.tmp 4) 3),zG 2 5]
instance : Live qw8 := ⟨[0]⟩
def t_k167 : SC :=
 (.seq (.ops false qw9) (.seq (.ops false qw8) .ret))
theorem it_k167 : FnIs Tryz.prog 167 6 [.tmp 2] t_k167 := ⟨Tryz.f167, _, Tryz.func167, rfl, rfl, rfl, rfl, by kernel_rfl⟩

def qzm : List SOp := [zO 4 (.assign (.const (.int .i64 0)))]
instance : Live qzm := ⟨[0,1]⟩
def qzl : List SOp := [zM 7 0,zO 8 (.call ⟨.value (.func 167),#[.tmp 7],#[3]⟩),zG 5 8]
instance : Live qzl := ⟨[0,1]⟩
def qzk : List SOp := [zM 9 1,zO 10 (.call ⟨.value (.func 167),#[.tmp 9],#[3]⟩),zG 6 10]
instance : Live qzk := ⟨[0,1,5]⟩
def qzj : List SOp := [zM 11 5]
instance : Live qzj := ⟨[0,1,5,6]⟩
def qzi : List SOp := [zM 12 6]
instance : Live qzi := ⟨[6]⟩
def qzh : List SOp := [zO 4 (.assign (.const (.int .i64 0)))]
instance : Live qzh := ⟨[]⟩
def qzg : List SOp := [zO 4 (.assign (.const (.int .i64 (-1))))]
instance : Live qzg := ⟨[]⟩
def qzf : List SOp := [zM 13 6]
instance : Live qzf := ⟨[0,1,6]⟩
def qze : List SOp := [zO 4 (.assign (.const (.int .i64 1)))]
instance : Live qze := ⟨[]⟩
def qm3 : List SOp := [zM 14 0,zM 15 1,zO 16 (.binOp .lss 3 (.tmp 14) (.tmp 15) 3)]
instance : Live qm3 := ⟨[0,1]⟩
def qm2 : List SOp := [zO 4 (.assign (.const (.int .i64 (-1))))]
instance : Live qm2 := ⟨[]⟩
def qm1 : List SOp := [zM 17 0,zM 18 1,zO 19 (.binOp .gtr 3 (.tmp 17) (.tmp 18) 3)]
instance : Live qm1 := ⟨[0,1]⟩
def qm0 : List SOp := [zO 4 (.assign (.const (.int .i64 1)))]
instance : Live qm0 := ⟨[]⟩
def qlz : List SOp := [zO 4 (.assign (.const (.int .i64 0)))]
instance : Live qlz := ⟨[]⟩
def t_k149 : SC :=
 (.seq (.ops false qzm) (.seq (.ops false qzl) (.seq (.ops false qzk) (.seq (.seq (.ops false qzj) (.cond (.tmp 11) (.seq (.seq (.ops false qzi) (.cond (.tmp 12) (.seq (.ops false qzh) .ret) .skip)) (.seq (.ops false qzg) .ret)) .skip)) (.seq (.seq (.ops false qzf) (.cond (.tmp 13) (.seq (.ops false qze) .ret) .skip)) (.seq (.seq (.ops false qm3) (.cond (.tmp 16) (.seq (.ops false qm2) .ret) .skip)) (.seq (.seq (.ops false qm1) (.cond (.tmp 19) (.seq (.ops false qm0) .ret) .skip)) (.seq (.ops false qlz) .ret))))))))
theorem it_k149 : FnIs Tryz.prog 149 20 [.tmp 4] t_k149 := ⟨Tryz.f149, _, Tryz.func149, rfl, rfl, rfl, rfl, by kernel_rfl⟩

def qz2 : List SOp := [zO 2 (.assign (.const (.int .i64 0)))]
instance : Live qz2 := ⟨[0]⟩
def qz1 : List SOp := [zO 3 (.assign (.const (.int .i64 0)))]
instance : Live qz1 := ⟨[0]⟩
def qz0 : List SOp := [zM 6 0,zO 7 (.call ⟨.builtin .len,#[.tmp 6],#[23]⟩),zO 8 (.move (.const (.int .i64 0)))]
instance : Live qz0 := ⟨[0,3]⟩
def qyz : List SOp := [zO 9 (.binOp .lss 3 (.tmp 8) (.tmp 7) 3)]
instance : Live qyz := ⟨[3,6,7,8]⟩
def qyy : List SOp := [zI 10 23 6 8,zL 11 3 10,zG 5 11]
instance : Live qyy := ⟨[3,6,7,8]⟩
def qyx : List SOp := [zM 12 5,zM 13 3,zO 14 (.binOp .neq 3 (.tmp 12) (.tmp 13) 3)]
instance : Live qyx := ⟨[3,5,6,7,8]⟩
def qyw : List SOp := [zM 15 5,zG 2 15]
instance : Live qyw := ⟨[5]⟩
def qyv : List SOp := [zO 16 (.binOp .add 3 (.tmp 8) (.const (.int .i64 1)) 3),zM 8 16]
instance : Live qyv := ⟨[3,6,7,8]⟩
def qyu : List SOp := [zM 17 3,zG 2 17]
instance : Live qyu := ⟨[3]⟩
def qit : SC :=
 (.seq (.ops false qyz) (.seq (.cond (.tmp 9) .skip (.exit 0)) (.seq (.block 1 (.seq (.ops false qyy) (.seq (.ops false qyx) (.cond (.tmp 14) (.seq (.ops false qyw) .ret) .skip)))) (.ops false qyv))))
def t_k152 : SC :=
 (.seq (.ops false qz2) (.seq (.ops false qz1) (.seq (.seq (.ops false qz0) (.block 0 (.loop qit))) (.seq (.ops false qyu) .ret))))
theorem it_k152 : FnIs Tryz.prog 152 18 [.tmp 2] t_k152 := ⟨Tryz.f152, _, Tryz.func152, rfl, rfl, rfl, rfl, by kernel_rfl⟩

def qz4 : List SOp := [zO 2 (.box 127 (.tmp 0)),zO 3 (.box 127 (.tmp 1)),zO 4 (.assign (.const (.int .i64 0)))]
instance : Live qz4 := ⟨[0,1]⟩
def qz3 : List SOp := [zF 5 127 2 0,zL 6 3 5,zF 7 127 3 0,zL 8 3 7,zO 9 (.call ⟨.value (.func 149),#[.tmp 6,.tmp 8],#[3,3]⟩),zF 10 127 2 1,zL 11 3 10,zF 12 127 3 1,zL 13 3 12,zO 14 (.call ⟨.value (.func 149),#[.tmp 11,.tmp 13],#[3,3]⟩),zF 15 127 2 2,zL 16 3 15,zF 17 127 3 2,zL 18 3 17,zO 19 (.call ⟨.value (.func 149),#[.tmp 16,.tmp 18],#[3,3]⟩),zO 20 (.buildSlice 23 3 #[(0,.tmp 9),(1,.tmp 14),(2,.tmp 19)]),zO 21 (.call ⟨.value (.func 152),#[.tmp 20],#[23]⟩),zG 4 21]
instance : Live qz3 := ⟨[2,3]⟩
def t_k151 : SC :=
 (.seq (.ops false qz4) (.seq (.ops true qz3) .ret))
theorem it_k151 : FnIs Tryz.prog 151 22 [.tmp 4] t_k151 := ⟨Tryz.f151, _, Tryz.func151, rfl, rfl, rfl, rfl, by kernel_rfl⟩

def qzd : List SOp := [zO 6 (.assign (.const (.int .i64 0)))]
instance : Live qzd := ⟨[0,1,2]⟩
def qzc : List SOp := [zM 11 0,zO 12 (.call ⟨.builtin .len,#[.tmp 11],#[24]⟩),zO 13 (.move (.const (.int .i64 0)))]
instance : Live qzc := ⟨[0,1,2]⟩
def qzb : List SOp := [zO 14 (.binOp .lss 3 (.tmp 13) (.tmp 12) 3)]
instance : Live qzb := ⟨[0,1,2,11,12,13]⟩
def qza : List SOp := [zM 15 13,zI 16 24 11 13,zL 17 127 16,zO 8 (.alloc 127),zG 7 15,⟨none,.store 127 (.tmp 8) (.tmp 17),none⟩]
instance : Live qza := ⟨[0,1,2,11,12,13]⟩
def qz9 : List SOp := [zM 18 7,zM 19 1,zO 20 (.call ⟨.builtin .len,#[.tmp 19],#[24]⟩),zO 21 (.binOp .geq 3 (.tmp 18) (.tmp 20) 3)]
instance : Live qz9 := ⟨[0,1,2,7,8,11,12,13]⟩
def qz8 : List SOp := [zO 6 (.assign (.const (.int .i64 1)))]
instance : Live qz8 := ⟨[]⟩
def qz7 : List SOp := [zM 22 1,zM 23 7,zI 24 24 22 23,zL 25 127 24,zO 9 (.alloc 127),⟨none,.store 127 (.tmp 9) (.tmp 25),none⟩]
instance : Live qz7 := ⟨[0,1,2,7,8,11,12,13]⟩
def qz6 : List SOp := [zM 26 2,zL 27 127 8,zL 28 127 9,zO 29 (.call ⟨.value (.tmp 26),#[.tmp 27,.tmp 28],#[127,127]⟩),zG 10 29]
instance : Live qz6 := ⟨[0,1,2,8,9,11,12,13]⟩
def qz5 : List SOp := [zM 30 10,zO 31 (.binOp .neq 3 (.tmp 30) (.const (.int .i64 0)) 3)]
instance : Live qz5 := ⟨[0,1,2,10,11,12,13]⟩
def qly : List SOp := [zM 32 10,zG 6 32]
instance : Live qly := ⟨[10]⟩
def qlx : List SOp := [zO 33 (.binOp .add 3 (.tmp 13) (.const (.int .i64 1)) 3),zM 13 33]
instance : Live qlx := ⟨[0,1,2,11,12,13]⟩
def qlw : List SOp := [zM 34 0,zO 35 (.call ⟨.builtin .len,#[.tmp 34],#[24]⟩),zM 36 1,zO 37 (.call ⟨.builtin .len,#[.tmp 36],#[24]⟩),zO 38 (.binOp .lss 3 (.tmp 35) (.tmp 37) 3)]
instance : Live qlw := ⟨[0,1]⟩
def qlv : List SOp := [zO 6 (.assign (.const (.int .i64 (-1))))]
instance : Live qlv := ⟨[]⟩
def qlu : List SOp := [zO 6 (.assign (.const (.int .i64 0)))]
instance : Live qlu := ⟨[]⟩
def qiu : SC :=
 (.seq (.ops false qzb) (.seq (.cond (.tmp 14) .skip (.exit 0)) (.seq (.block 1 (.seq (.ops false qza) (.seq (.seq (.ops false qz9) (.cond (.tmp 21) (.seq (.ops false qz8) .ret) .skip)) (.seq (.ops false qz7) (.seq (.ops false qz6) (.seq (.ops false qz5) (.cond (.tmp 31) (.seq (.ops false qly) .ret) .skip))))))) (.ops false qlx))))
def t_k150 : SC :=
 (.seq (.ops false qzd) (.seq (.seq (.ops false qzc) (.block 0 (.loop qiu))) (.seq (.seq (.ops false qlw) (.cond (.tmp 38) (.seq (.ops false qlv) .ret) .skip)) (.seq (.ops false qlu) .ret))))
theorem it_k150 : FnIs Tryz.prog 150 39 [.tmp 6] t_k150 := ⟨Tryz.f150, _, Tryz.func150, rfl, rfl, rfl, rfl, by kernel_rfl⟩

def q7e (a b : Int) : Int := if a < b then -1 else if b < a then 1 else 0
theorem zkf (a : Int) : Ev (En Tryz.prog rfl).P 167 [.int .i64 a] (.ret (.bool false)) := by
 refine Ev.of_body it_k167 (by simp) (Run.start ?_)
 unfold t_k167
 (have hF := True.intro; refine q01 (k:=?_); clear hF)
 all_goals first | exact Fin.tmp' rfl rfl | trace_state
theorem qhd (a b : Int) : Ev (En Tryz.prog rfl).P 149 [.int .i64 a, .int .i64 b] (.ret (.int .i64 (q7e a b))) := by
 refine Ev.of_body it_k149 (by simp) (Run.start ?_)
 unfold t_k149
 (have hF := True.intro; refine q01 (k:=?_); clear hF)
 refine q00 [.int .i64 a] (he := zkf a) (k:=?_)
 (have hF := True.intro; refine q01 (k:=?_); clear hF)
 refine q00 [.int .i64 b] (he := zkf b) (k:=?_)
 (focus (have hF := True.intro; (repeat' (first | refine go1 (k:=?_) | with_reducible refine Ny.of ?_ ?_ | (refine Hyp.of ?_; intro hc; (try simp only [hc]); (try simp only [Bh] at hc)))); all_goals clear hF))
 ·rw [show q7e a b = -1 from if_pos hc]
  exact Fin.tmp' rfl rfl
 ·rename_i hc1
  rw [show q7e a b = 1 by unfold q7e; rw [if_neg hc1, if_pos hc]]
  exact Fin.tmp' rfl rfl
 ·rename_i hc1
  rw [show q7e a b = 0 by unfold q7e; rw [if_neg hc1, if_neg hc]]
  exact Fin.tmp' rfl rfl
def orI : List Int → Int
 | [] => 0
 | x :: l => if x = 0 then orI l else x
theorem orI_drop {l : List Int} {i : Nat} {x : Int} (h : l[i]? = some x) : orI (l.drop i) = if x = 0 then orI (l.drop (i + 1)) else x := by
 obtain ⟨hi, hx⟩ := List.getElem?_eq_some_iff.1 h
 rw [List.drop_eq_getElem_cons hi, hx]
 rfl
theorem ev_k152 (l : List Int) (hl : l.length ≤ 1000000000) : Ev (En Tryz.prog rfl).P 152 [.sl 1 (q05 l)] (.ret (.int .i64 (orI l))) := by
 refine Ev.of_body it_k152 (by simp) (Run.start ?_)
 unfold t_k152
 have e1 := q0f l
 (have hF := @e1; refine q01 (k:=?_); clear hF)
 refine Run.while (σ := Nat) (fun i => ⟨tms [(3, .int .i64 0), (6, .sl 1 (q05 l)), (7, .int .i64 (l.length : Int)), (8, .int .i64 (i : Int))], mms []⟩) (fun i => i ≤ l.length ∧ orI (l.drop i) = orI l) (fun i => l.length - i) 0 (have hW := @q02; q0h) ⟨Nat.zero_le _, by rw [List.drop_zero]⟩ ?_
 rintro i ⟨hi, hp⟩
 unfold qit
 by_cases hlt : i < l.length
 ·obtain ⟨x, hx⟩ : ∃ x, l[i]? = some x := ⟨l[i], by simp [hlt]⟩
  have g1 := q0w hx
  have hd := orI_drop hx
  (focus (have hF := (aI @e1 @g1); (repeat' (first | refine go1 (k:=?_) | with_reducible refine Ny.of ?_ ?_ | (refine Hyp.of ?_; intro hc; (try simp only [hc]); (try simp only [Bh] at hc)))); all_goals clear hF))
  ·rw [if_neg hc] at hd
   rw [← hp, hd]
   exact Fin.tmp' rfl rfl
  ·rw [if_pos hc] at hd
   (refine Fin.nextW (i + 1) ?_ (have hW := @q02; q0h); (try dsimp only))
   exact ⟨⟨hlt, hd.symm.trans hp⟩, by omega⟩
 ·rw [← hp, List.drop_eq_nil_of_le (by omega)]
  (have hF := @e1; refine q01 (k:=?_); clear hF)
  exact Fin.tmp' rfl rfl
def cmpS (s t : Sn) : Int := orI [q7e s.1 t.1, q7e s.2.1 t.2.1, q7e s.2.2 t.2.2]
theorem ev_k151 (s t : Sn) : Ev (En Tryz.prog rfl).P 151 [qr4 s, qr4 t] (.ret (.int .i64 (cmpS s t))) := by
 refine Ev.of_body it_k151 (by simp) (Run.start ?_)
 unfold t_k151 qr4
 (have hF := True.intro; refine q01 (k:=?_); clear hF)
 refine q00 [.int .i64 s.1, .int .i64 t.1] (he := qhd _ _) (k:=?_)
 (have hF := True.intro; refine q01 (k:=?_); clear hF)
 refine q00 [.int .i64 s.2.1, .int .i64 t.2.1] (he := qhd _ _) (k:=?_)
 (have hF := True.intro; refine q01 (k:=?_); clear hF)
 refine q00 [.int .i64 s.2.2, .int .i64 t.2.2] (he := qhd _ _) (k:=?_)
 (have hF := True.intro; refine q01 (k:=?_); clear hF)
 refine q00 [.sl 1 (q05 [q7e s.1 t.1, q7e s.2.1 t.2.1, q7e s.2.2 t.2.2])] (he := ev_k152 _ (by simp)) (k:=?_)
 (have hF := True.intro; refine q01 (k:=?_); clear hF)
 exact Fin.tmp' rfl rfl
def qi2 : List Sn → List Sn → Int
 | [], [] => 0
 | [], _ :: _ => -1
 | _ :: _, [] => 1
 | x :: l, y :: m => if cmpS x y = 0 then qi2 l m else cmpS x y
theorem q8i (a b : List Sn) (ha : a.length ≤ 1000000000) (hb : b.length ≤ 1000000000) : Ev (En Tryz.prog rfl).P 150 [.sl 3 (q0d a), .sl 3 (q0d b), .fn 151 []] (.ret (.int .i64 (qi2 a b))) := by
 refine Ev.of_body it_k150 (by simp) (Run.start ?_)
 unfold t_k150
 have e1 := q1f a
 have e2 := q1f b
 (have hF := (aI @e1 @e2); refine q01 (k:=?_); clear hF)
 refine Run.while (σ := Nat) (fun i => ⟨tms [(0, .sl 3 (q0d a)), (1, .sl 3 (q0d b)), (2, .fn 151 []), (11, .sl 3 (q0d a)), (12, .int .i64 (a.length : Int)), (13, .int .i64 (i : Int))], mms []⟩) (fun i => i ≤ a.length ∧ i ≤ b.length ∧ qi2 (a.drop i) (b.drop i) = qi2 a b) (fun i => a.length - i) 0 (have hW := @q03; q0h) ⟨Nat.zero_le _, Nat.zero_le _, by rw [List.drop_zero, List.drop_zero]⟩ ?_
 rintro i ⟨hi, hi2, hp⟩
 unfold qiu
 by_cases hlt : i < a.length
 ·obtain ⟨x, hx⟩ : ∃ x, a[i]? = some x := ⟨a[i], by simp [hlt]⟩
  have g1 := q2e hx
  obtain ⟨_, hxa⟩ := List.getElem?_eq_some_iff.1 hx
  by_cases hlb : i < b.length
  ·obtain ⟨y, hy⟩ : ∃ y, b[i]? = some y := ⟨b[i], by simp [hlb]⟩
   have g2 := q2e hy
   obtain ⟨_, hyb⟩ := List.getElem?_eq_some_iff.1 hy
   have hd : qi2 a b = if cmpS x y = 0 then qi2 (a.drop (i + 1)) (b.drop (i + 1)) else cmpS x y := by
    rw [← hp, List.drop_eq_getElem_cons hlt, List.drop_eq_getElem_cons hlb, hxa, hyb]
    rfl
   unfold qr4 at g1 g2
   (have hF := (aI (aI @e1 @e2) (aI @g1 @g2)); refine q01 (k:=?_); clear hF)
   refine q00 [.agg [.int .i64 x.1, .int .i64 x.2.1, .int .i64 x.2.2], .agg [.int .i64 y.1, .int .i64 y.2.1, .int .i64 y.2.2]] (he := ev_k151 x y) (k:=?_)
   (focus (have hF := (aI (aI @e1 @e2) (aI @g1 @g2)); (repeat' (first | refine go1 (k:=?_) | with_reducible refine Ny.of ?_ ?_ | (refine Hyp.of ?_; intro hc; (try simp only [hc]); (try simp only [Bh] at hc)))); all_goals clear hF))
   ·rw [if_neg hc] at hd
    rw [hd]
    exact Fin.tmp' rfl rfl
   ·rw [if_pos hc] at hd
    (refine Fin.nextW (i + 1) ?_ (have hW := @q03; q0h); (try dsimp only))
    exact ⟨⟨hlt, hlb, hd.symm⟩, by omega⟩
  ·have hd : qi2 a b = 1 := by
    rw [← hp, List.drop_eq_getElem_cons hlt, List.drop_eq_nil_of_le (show b.length ≤ i by omega)]
    rfl
   rw [hd]
   (have hF := (aI @e1 (aI @e2 @g1)); refine q01 (k:=?_); clear hF)
   exact Fin.tmp' rfl rfl
 ·have hia : i = a.length := by omega
  (focus (have hF := (aI @e1 @e2); (repeat' (first | refine go1 (k:=?_) | with_reducible refine Ny.of ?_ ?_ | (refine Hyp.of ?_; intro hc; (try simp only [hc]); (try simp only [Bh] at hc)))); all_goals clear hF))
  ·have hd : qi2 a b = -1 := by
    rw [← hp, List.drop_eq_nil_of_le (show a.length ≤ i by omega), List.drop_eq_getElem_cons (show i < b.length by omega)]
    rfl
   rw [hd]
   exact Fin.tmp' rfl rfl
  ·have hd : qi2 a b = 0 := by
    rw [← hp, List.drop_eq_nil_of_le (show a.length ≤ i by omega), List.drop_eq_nil_of_le (show b.length ≤ i by omega)]
    rfl
   rw [hd]
   exact Fin.tmp' rfl rfl

def q5n : List Int → List Int → Int
 | [], [] => 0
 | [], _ :: _ => -1
 | _ :: _, [] => 1
 | x :: l, y :: m => if x < y then -1 else if y < x then 1 else q5n l m
theorem qf6 : ∀ l m : List Int, q5n l m = -1 ∨ q5n l m = 0 ∨ q5n l m = 1
 | [], [] => .inr (.inl rfl)
 | [], _ :: _ => .inl rfl
 | _ :: _, [] => .inr (.inr rfl)
 | x :: l, y :: m => by
  unfold q5n
  split
  ·exact .inl rfl
  ·split
   ·exact .inr (.inr rfl)
   ·exact qf6 l m
theorem qh0 : ∀ l m : List Int, q5n m l = - q5n l m
 | [], [] => rfl
 | [], _ :: _ => rfl
 | _ :: _, [] => rfl
 | x :: l, y :: m => by
  have ih := qh0 l m
  unfold q5n
  by_cases h1 : x < y
  ·rw [if_neg (show ¬ y < x by omega), if_pos h1, if_pos h1]; rfl
  ·by_cases h2 : y < x
   ·rw [if_pos h2, if_neg h1, if_pos h2]
   ·rw [if_neg h1, if_neg h2, if_neg h2, if_neg h1, ih]
theorem qd9 : ∀ l : List Int, q5n l l = 0
 | [] => rfl
 | x :: l => by unfold q5n; rw [if_neg (by omega), if_neg (by omega), qd9 l]
theorem qqj : ∀ {l m : List Int}, q5n l m = 0 → l = m
 | [], [], _ => rfl
 | [], _ :: _, h => by simp [q5n] at h
 | _ :: _, [], h => by simp [q5n] at h
 | x :: l, y :: m, h => by
  unfold q5n at h
  by_cases h1 : x < y
  ·rw [if_pos h1] at h; simp at h
  ·by_cases h2 : y < x
   ·rw [if_neg h1, if_pos h2] at h; simp at h
   ·rw [if_neg h1, if_neg h2] at h
    rw [qqj h, show x = y by omega]
theorem qac : ∀ {l m k : List Int}, q5n l m ≤ 0 → q5n m k ≤ 0 → q5n l k ≤ 0
 | [], _, [], _, _ => by simp [q5n]
 | [], _, _ :: _, _, _ => by simp [q5n]
 | _ :: _, [], _, h, _ => by simp [q5n] at h
 | _ :: _, _ :: _, [], _, h => by simp [q5n] at h
 | x :: l, y :: m, z :: k, h, h' => by
  unfold q5n at h h' ⊢
  by_cases a1 : x < y
  ·by_cases b1 : y < z
   ·rw [if_pos (by omega)]; omega
   ·by_cases b2 : z < y
    ·rw [if_neg b1, if_pos b2] at h'; omega
    ·rw [if_pos (by omega)]; omega
  ·by_cases a2 : y < x
   ·rw [if_neg a1, if_pos a2] at h; omega
   ·rw [if_neg a1, if_neg a2] at h
    by_cases b1 : y < z
    ·rw [if_pos (by omega)]; omega
    ·by_cases b2 : z < y
     ·rw [if_neg b1, if_pos b2] at h'; omega
     ·rw [if_neg b1, if_neg b2] at h'
      rw [if_neg (by omega), if_neg (by omega)]
      exact qac h h'
theorem qh1 : ∀ (l : List Int) (c d : List Int), q5n (l ++ c) (l ++ d) = q5n c d
 | [], _, _ => rfl
 | x :: l, c, d => by
  show (if x < x then (-1 : Int) else if x < x then 1 else q5n (l ++ c) (l ++ d)) = _
  rw [if_neg (by omega), if_neg (by omega), qh1 l]
theorem qqk : ∀ (l m : List Int) (i : Nat) (x y : Int) (c d : List Int), l[i]? = some x → m[i]? = some y → (∀ j, j < i → l[j]? = m[j]?) → x ≠ y → q5n (l ++ c) (m ++ d) = q7e x y
 | [], _, _, _, _, _, _, h, _, _, _ => by simp at h
 | _ :: _, [], _, _, _, _, _, _, h, _, _ => by simp at h
 | a :: l, b :: m, 0, x, y, c, d, h1, h2, _, hn => by
  simp at h1 h2
  subst h1; subst h2
  show q5n (a :: (l ++ c)) (b :: (m ++ d)) = _
  unfold q5n q7e
  by_cases e1 : a < b
  ·rw [if_pos e1, if_pos e1]
  ·rw [if_neg e1, if_neg e1, if_pos (by omega), if_pos (by omega)]
 | a :: l, b :: m, i + 1, x, y, c, d, h1, h2, hj, hn => by
  have e := hj 0 (by omega)
  simp at e
  subst e
  show q5n (a :: (l ++ c)) (a :: (m ++ d)) = _
  unfold q5n
  rw [if_neg (by omega), if_neg (by omega)]
  refine qqk l m i x y c d (by simpa using h1) (by simpa using h2) (fun j hjl => ?_) hn
  have := hj (j + 1) (by omega)
  simpa using this
def qen : List Sn → List Int
 | [] => []
 | s :: l => s.1 :: s.2.1 :: s.2.2 :: qen l
theorem qos : ∀ {l m : List Sn}, qen l = qen m → l = m
 | [], [], _ => rfl
 | [], _ :: _, h => by simp [qen] at h
 | _ :: _, [], h => by simp [qen] at h
 | x :: l, y :: m, h => by
  simp only [qen, List.cons.injEq] at h
  rw [qos h.2.2.2, show x = y from Prod.ext h.1 (Prod.ext h.2.1 h.2.2.1)]
theorem qe2 : ∀ l m : List Sn, q5n (qen l) (qen m) = qi2 l m
 | [], [] => rfl
 | [], _ :: _ => rfl
 | _ :: _, [] => rfl
 | x :: l, y :: m => by
  have ih := qe2 l m
  simp only [qen, q5n, qi2, cmpS, orI, q7e, ih]
  by_cases a1 : x.1 < y.1
  ·simp [a1]
  ·by_cases a2 : y.1 < x.1
   ·simp [a1, a2]
   ·by_cases b1 : x.2.1 < y.2.1
    ·simp [a1, a2, b1]
    ·by_cases b2 : y.2.1 < x.2.1
     ·simp [a1, a2, b1, b2]
     ·by_cases c1 : x.2.2 < y.2.2
      ·simp [a1, a2, b1, b2, c1]
      ·by_cases c2 : y.2.2 < x.2.2
       ·simp [a1, a2, b1, b2, c1, c2]
       ·simp [a1, a2, b1, b2, c1, c2]
def vv (p : Pst) (r : Nat) : Int := if r < p.vec.length then q1n p.vec r else 0
def qia (p : Pst) : List Int := (List.range 16).map (vv p)
def qf8 (p : Pst) : List Int := qia p ++ qen p.cloud
def zaf (p q : Pst) : Int := q5n (qf8 (q18 p)) (qf8 (q18 q))
theorem q4d (p : Pst) {r : Nat} (hr : r < 16) : (qia p)[r]? = some (vv p r) := by
 unfold qia
 rw [List.getElem?_map, List.getElem?_range hr]
 rfl
theorem qbe (p : Pst) : (qia p).length = 16 := by simp [qia]
theorem keyP_inj {p q : Pst} (hp : CanP p) (hq : CanP q) (h : qf8 p = qf8 q) : p = q := by
 have h1 : qia p = qia q := by
  have := congrArg (List.take 16) h
  unfold qf8 at this
  rwa [List.take_left' (qbe p), List.take_left' (qbe q)] at this
 have h2 : p.cloud = q.cloud := by
  have := congrArg (List.drop 16) h
  unfold qf8 at this
  rw [List.drop_left' (qbe p), List.drop_left' (qbe q)] at this
  exact qos this
 refine hp.ext hq fun r hr n => ?_
 have e : vv p r = vv q r := by
  have a := q4d p hr
  rw [h1, q4d q hr] at a
  exact (Option.some.inj a).symm
 have k : ∀ z : Pst, 1 ≤ n → ((r < z.vec.length ∧ n ≤ q1n z.vec r) ↔ n ≤ vv z r) := fun z hn => by
  unfold vv
  by_cases hz : r < z.vec.length
  ·rw [if_pos hz]; exact ⟨fun h => h.2, fun h => ⟨hz, h⟩⟩
  ·rw [if_neg hz]; exact ⟨fun h => absurd h.1 hz, fun h => by omega⟩
 unfold inP
 rw [h2]
 constructor
 ·rintro ⟨a, b, c, d⟩
  refine ⟨a, b, c, d.imp (fun d => ?_) id⟩
  rw [k q b, ← e, ← k p b]; exact d
 ·rintro ⟨a, b, c, d⟩
  refine ⟨a, b, c, d.imp (fun d => ?_) id⟩
  rw [k p b, e, ← k q b]; exact d
theorem q9t {p q : Pst} : zaf p q = 0 ↔ q18 p = q18 q := by
 constructor
 ·intro h
  exact keyP_inj (q9y p) (q9y q) (qqj h)
 ·intro h
  unfold zaf
  rw [h, qd9]

def qvp : List SOp := [zO 2 (.assign (.const (.bool false)))]
instance : Live qvp := ⟨[0]⟩
def qvo : List SOp := [zM 3 0,zO 4 (.binOp .leq 5 (.const (.int .u8 65)) (.tmp 3) 5),zM 5 4,⟨some 6,.move (.tmp 0),some ((some 5),true)⟩,⟨some 7,.binOp .leq 5 (.tmp 6) (.const (.int .u8 90)) 5,some ((some 5),true)⟩,zO 8 (.pick (.tmp 5) (.tmp 7) (.const (.bool false))),zG 2 8]
instance : Live qvo := ⟨[0]⟩
def t_k170 : SC :=
 (.seq (.ops false qvp) (.seq (.ops false qvo) .ret))
theorem it_k170 : FnIs Tryz.prog 170 9 [.tmp 2] t_k170 := ⟨Tryz.f170, _, Tryz.func170, rfl, rfl, rfl, rfl, by kernel_rfl⟩

def qvn : List SOp := [zO 2 (.assign (.const (.bool false)))]
instance : Live qvn := ⟨[0]⟩
def qvm : List SOp := [zM 3 0,zO 4 (.binOp .leq 5 (.const (.int .u8 48)) (.tmp 3) 5),zM 5 4,⟨some 6,.move (.tmp 0),some ((some 5),true)⟩,⟨some 7,.binOp .leq 5 (.tmp 6) (.const (.int .u8 57)) 5,some ((some 5),true)⟩,zO 8 (.pick (.tmp 5) (.tmp 7) (.const (.bool false))),zG 2 8]
instance : Live qvm := ⟨[0]⟩
def t_k171 : SC :=
 (.seq (.ops false qvn) (.seq (.ops false qvm) .ret))
theorem it_k171 : FnIs Tryz.prog 171 9 [.tmp 2] t_k171 := ⟨Tryz.f171, _, Tryz.func171, rfl, rfl, rfl, rfl, by kernel_rfl⟩

def qvl : List SOp := [zO 2 (.assign (.const (.bool false)))]
instance : Live qvl := ⟨[0]⟩
def qvk : List SOp := [zM 3 0,zO 4 (.binOp .eql 5 (.tmp 3) (.const (.int .u8 45)) 5),zM 5 4,⟨some 6,.move (.tmp 0),some ((some 5),false)⟩,⟨some 7,.binOp .eql 5 (.tmp 6) (.const (.int .u8 46)) 5,some ((some 5),false)⟩,zO 8 (.pick (.tmp 5) (.const (.bool true)) (.tmp 7)),zG 2 8]
instance : Live qvk := ⟨[0]⟩
def t_k172 : SC :=
 (.seq (.ops false qvl) (.seq (.ops false qvk) .ret))
theorem it_k172 : FnIs Tryz.prog 172 9 [.tmp 2] t_k172 := ⟨Tryz.f172, _, Tryz.func172, rfl, rfl, rfl, rfl, by kernel_rfl⟩

def qy4 : List SOp := [zO 2 (.assign (.const (.int .i64 0))),zO 3 (.assign (.const (.int .i64 0)))]
instance : Live qy4 := ⟨[0]⟩
def qy3 : List SOp := [zM 6 0,zO 7 (.binOp .eql 9 (.tmp 6) (.const (.string ⟨#[]⟩)) 9)]
instance : Live qy3 := ⟨[0]⟩
def qy2 : List SOp := [zO 2 (.assign (.const (.int .i64 0))),zO 3 (.assign (.const (.int .i64 20)))]
instance : Live qy2 := ⟨[]⟩
def qy1 : List SOp := [zM 8 0,zO 9 (.call ⟨.builtin .len,#[.tmp 8],#[9]⟩),zO 10 (.binOp .gtr 3 (.tmp 9) (.const (.int .i64 24)) 3)]
instance : Live qy1 := ⟨[0]⟩
def qy0 : List SOp := [zO 2 (.assign (.const (.int .i64 0))),zO 3 (.assign (.const (.int .i64 21)))]
instance : Live qy0 := ⟨[]⟩
def qxz : List SOp := [zM 11 0,zO 12 (.call ⟨.builtin .len,#[.tmp 11],#[9]⟩),zO 13 (.move (.const (.int .i64 0)))]
instance : Live qxz := ⟨[0]⟩
def qxy : List SOp := [zO 14 (.binOp .lss 3 (.tmp 13) (.tmp 12) 3)]
instance : Live qxy := ⟨[0,12,13]⟩
def qxx : List SOp := [zM 15 13,zG 4 15]
instance : Live qxx := ⟨[0,12,13]⟩
def qxw : List SOp := [zM 16 0,zM 17 4,zO 18 (.index 9 (.tmp 16) (.tmp 17)),zG 5 18]
instance : Live qxw := ⟨[0,4,12,13]⟩
def qld : List SOp := [zM 19 5,zO 20 (.call ⟨.value (.func 170),#[.tmp 19],#[5]⟩),zM 21 20,⟨some 22,.move (.tmp 5),some ((some 21),false)⟩,⟨some 23,.call ⟨.value (.func 171),#[.tmp 22],#[5]⟩,some ((some 21),false)⟩,zO 24 (.pick (.tmp 21) (.const (.bool true)) (.tmp 23))]
instance : Live qld := ⟨[0,4,5,12,13]⟩
def qlc : List SOp := [zM 25 5,zO 26 (.call ⟨.value (.func 172),#[.tmp 25],#[5]⟩),zO 27 (.unOp .not 4 (.tmp 26)),zM 28 27,⟨some 29,.move (.tmp 4),some ((some 28),false)⟩,⟨some 30,.binOp .eql 3 (.tmp 29) (.const (.int .i64 0)) 3,some ((some 28),false)⟩,zO 31 (.pick (.tmp 28) (.const (.bool true)) (.tmp 30)),zM 32 31,⟨some 33,.move (.tmp 4),some ((some 32),false)⟩,⟨some 34,.move (.tmp 0),some ((some 32),false)⟩,⟨some 35,.call ⟨.builtin .len,#[.tmp 34],#[9]⟩,some ((some 32),false)⟩,⟨some 36,.binOp .sub 3 (.tmp 35) (.const (.int .i64 1)) 3,some ((some 32),false)⟩,⟨some 37,.binOp .eql 3 (.tmp 33) (.tmp 36) 3,some ((some 32),false)⟩,zO 38 (.pick (.tmp 32) (.const (.bool true)) (.tmp 37)),zM 39 38,⟨some 40,.move (.tmp 0),some ((some 39),false)⟩,⟨some 41,.move (.tmp 4),some ((some 39),false)⟩,⟨some 42,.binOp .sub 3 (.tmp 41) (.const (.int .i64 1)) 3,some ((some 39),false)⟩,⟨some 43,.index 9 (.tmp 40) (.tmp 42),some ((some 39),false)⟩,⟨some 44,.call ⟨.value (.func 172),#[.tmp 43],#[5]⟩,some ((some 39),false)⟩,zO 45 (.pick (.tmp 39) (.const (.bool true)) (.tmp 44))]
instance : Live qlc := ⟨[0,4,5,12,13]⟩
def qlb : List SOp := [zM 46 4,zG 2 46,zO 3 (.assign (.const (.int .i64 22)))]
instance : Live qlb := ⟨[4]⟩
def qla : List SOp := [zO 47 (.binOp .add 3 (.tmp 13) (.const (.int .i64 1)) 3),zM 13 47]
instance : Live qla := ⟨[0,12,13]⟩
def ql9 : List SOp := [zO 2 (.assign (.const (.int .i64 0))),zO 3 (.assign (.const (.int .i64 0)))]
instance : Live ql9 := ⟨[]⟩
def qiq : SC :=
 (.seq (.ops false qxy) (.seq (.cond (.tmp 14) .skip (.exit 0)) (.seq (.block 1 (.seq (.ops false qxx) (.seq (.ops false qxw) (.seq (.seq (.ops false qld) (.cond (.tmp 24) (.exit 1) .skip)) (.seq (.ops false qlc) (.cond (.tmp 45) (.seq (.ops false qlb) .ret) .skip)))))) (.ops false qla))))
def t_k158 : SC :=
 (.seq (.ops false qy4) (.seq (.seq (.ops false qy3) (.cond (.tmp 7) (.seq (.ops false qy2) .ret) .skip)) (.seq (.seq (.ops false qy1) (.cond (.tmp 10) (.seq (.ops false qy0) .ret) .skip)) (.seq (.seq (.ops false qxz) (.block 0 (.loop qiq))) (.seq (.ops false ql9) .ret)))))
theorem it_k158 : FnIs Tryz.prog 158 48 [.tmp 2, .tmp 3] t_k158 := ⟨Tryz.f158, _, Tryz.func158, rfl, rfl, rfl, rfl, by kernel_rfl⟩

def z0x : List SOp := [zO 2 (.assign (.const (.bool false)))]
instance : Live z0x := ⟨[0]⟩
def z0w : List SOp := [zM 6 0,zO 7 (.call ⟨.value (.func 158),#[.tmp 6],#[9]⟩),zM 5 7,zX 8 5 0,zX 9 5 1,zG 3 8,zG 4 9]
instance : Live z0w := ⟨[0]⟩
def z0v : List SOp := [zM 10 4,zO 11 (.binOp .eql 32 (.tmp 10) (.const (.int .i64 0)) 32),zG 2 11]
instance : Live z0v := ⟨[4]⟩
def t_k137 : SC :=
 (.seq (.ops false z0x) (.seq (.ops false z0w) (.seq (.ops false z0v) .ret)))
theorem it_k137 : FnIs Tryz.prog 137 12 [.tmp 2] t_k137 := ⟨Tryz.f137, _, Tryz.func137, rfl, rfl, rfl, rfl, by kernel_rfl⟩

def qug : List SOp := [zO 2 (.assign (.const (.bool false)))]
instance : Live qug := ⟨[0]⟩
def quf : List SOp := [zM 3 0,zO 4 (.binOp .geq 5 (.tmp 3) (.const (.int .u8 65)) 5),zM 5 4,⟨some 6,.move (.tmp 0),some ((some 5),true)⟩,⟨some 7,.binOp .leq 5 (.tmp 6) (.const (.int .u8 90)) 5,some ((some 5),true)⟩,zO 8 (.pick (.tmp 5) (.tmp 7) (.const (.bool false))),zG 2 8]
instance : Live quf := ⟨[0]⟩
def t_k193 : SC :=
 (.seq (.ops false qug) (.seq (.ops false quf) .ret))
theorem it_k193 : FnIs Tryz.prog 193 9 [.tmp 2] t_k193 := ⟨Tryz.f193, _, Tryz.func193, rfl, rfl, rfl, rfl, by kernel_rfl⟩

def que : List SOp := [zO 2 (.assign (.const (.bool false)))]
instance : Live que := ⟨[0]⟩
def qud : List SOp := [zM 3 0,zO 4 (.binOp .geq 5 (.tmp 3) (.const (.int .u8 48)) 5),zM 5 4,⟨some 6,.move (.tmp 0),some ((some 5),true)⟩,⟨some 7,.binOp .leq 5 (.tmp 6) (.const (.int .u8 57)) 5,some ((some 5),true)⟩,zO 8 (.pick (.tmp 5) (.tmp 7) (.const (.bool false))),zG 2 8]
instance : Live qud := ⟨[0]⟩
def t_k194 : SC :=
 (.seq (.ops false que) (.seq (.ops false qud) .ret))
theorem it_k194 : FnIs Tryz.prog 194 9 [.tmp 2] t_k194 := ⟨Tryz.f194, _, Tryz.func194, rfl, rfl, rfl, rfl, by kernel_rfl⟩

def quc : List SOp := [zO 2 (.assign (.const (.bool false)))]
instance : Live quc := ⟨[0]⟩
def qub : List SOp := [zM 3 0,zO 4 (.binOp .eql 5 (.tmp 3) (.const (.int .u8 45)) 5),zM 5 4,⟨some 6,.move (.tmp 0),some ((some 5),false)⟩,⟨some 7,.binOp .eql 5 (.tmp 6) (.const (.int .u8 46)) 5,some ((some 5),false)⟩,zO 8 (.pick (.tmp 5) (.const (.bool true)) (.tmp 7)),zG 2 8]
instance : Live qub := ⟨[0]⟩
def t_k195 : SC :=
 (.seq (.ops false quc) (.seq (.ops false qub) .ret))
theorem it_k195 : FnIs Tryz.prog 195 9 [.tmp 2] t_k195 := ⟨Tryz.f195, _, Tryz.func195, rfl, rfl, rfl, rfl, by kernel_rfl⟩

def qv4 : List SOp := [zO 4 (.assign (.const (.bool false)))]
instance : Live qv4 := ⟨[0,1]⟩
def qv3 : List SOp := [zM 6 0,zM 7 1,zO 8 (.index 9 (.tmp 6) (.tmp 7)),zG 5 8]
instance : Live qv3 := ⟨[0,1]⟩
def qv2 : List SOp := [zM 9 5,zO 10 (.call ⟨.value (.func 193),#[.tmp 9],#[5]⟩),zM 11 10,⟨some 12,.move (.tmp 5),some ((some 11),false)⟩,⟨some 13,.call ⟨.value (.func 194),#[.tmp 12],#[5]⟩,some ((some 11),false)⟩,zO 14 (.pick (.tmp 11) (.const (.bool true)) (.tmp 13))]
instance : Live qv2 := ⟨[0,1,5]⟩
def qv1 : List SOp := [zO 4 (.assign (.const (.bool true)))]
instance : Live qv1 := ⟨[]⟩
def qv0 : List SOp := [zM 15 5,zO 16 (.call ⟨.value (.func 195),#[.tmp 15],#[5]⟩),zO 17 (.unOp .not 4 (.tmp 16))]
instance : Live qv0 := ⟨[0,1,5]⟩
def quz : List SOp := [zO 4 (.assign (.const (.bool false)))]
instance : Live quz := ⟨[]⟩
def quy : List SOp := [zM 18 1,zO 19 (.binOp .eql 3 (.tmp 18) (.const (.int .i64 0)) 3),zM 20 19,⟨some 21,.move (.tmp 1),some ((some 20),false)⟩,⟨some 22,.move (.tmp 0),some ((some 20),false)⟩,⟨some 23,.call ⟨.builtin .len,#[.tmp 22],#[9]⟩,some ((some 20),false)⟩,⟨some 24,.binOp .sub 3 (.tmp 23) (.const (.int .i64 1)) 3,some ((some 20),false)⟩,⟨some 25,.binOp .eql 3 (.tmp 21) (.tmp 24) 3,some ((some 20),false)⟩,zO 26 (.pick (.tmp 20) (.const (.bool true)) (.tmp 25))]
instance : Live quy := ⟨[0,1]⟩
def qux : List SOp := [zO 4 (.assign (.const (.bool false)))]
instance : Live qux := ⟨[]⟩
def quw : List SOp := [zM 27 0,zM 28 1,zO 29 (.binOp .sub 3 (.tmp 28) (.const (.int .i64 1)) 3),zO 30 (.index 9 (.tmp 27) (.tmp 29)),zO 31 (.call ⟨.value (.func 195),#[.tmp 30],#[5]⟩),zO 32 (.unOp .not 4 (.tmp 31)),zG 4 32]
instance : Live quw := ⟨[0,1]⟩
def t_k184 : SC :=
 (.seq (.ops false qv4) (.seq (.ops false qv3) (.seq (.seq (.ops false qv2) (.cond (.tmp 14) (.seq (.ops false qv1) .ret) .skip)) (.seq (.seq (.ops false qv0) (.cond (.tmp 17) (.seq (.ops false quz) .ret) .skip)) (.seq (.seq (.ops false quy) (.cond (.tmp 26) (.seq (.ops false qux) .ret) .skip)) (.seq (.ops false quw) .ret))))))
theorem it_k184 : FnIs Tryz.prog 184 33 [.tmp 4] t_k184 := ⟨Tryz.f184, _, Tryz.func184, rfl, rfl, rfl, rfl, by kernel_rfl⟩

end Go.Proofs.YthejoeiecenjkaaGreat.Avm
