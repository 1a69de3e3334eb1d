/- Part 7 of the proof: lemmas. -/
import Derived.Test.YthejoeiecenjkaaGreatU6
import Derived.Test.YthejoeiecenjkaaGreatProg
import Derived.KernelRfl
set_option maxRecDepth 100000
set_option maxHeartbeats 4000000
set_option linter.unusedVariables false
set_option linter.unusedSimpArgs false
set_option linter.unusedSectionVars false
set_option linter.defProp false
namespace Go.Proofs.YthejoeiecenjkaaGreat.Avm
open Go.Proofs
def zor : List SOp := [zO 2 (.assign (.const (.bool false)))]
instance : Live zor := ⟨[0]⟩
def zoq : List SOp := [zO 17 (.call ⟨.value (.func 24),#[],#[]⟩),zO 18 (.unOp .not 4 (.tmp 17))]
instance : Live zoq := ⟨[0]⟩
def zop : List SOp := [zO 2 (.assign (.const (.bool false)))]
instance : Live zop := ⟨[]⟩
def zoo : List SOp := [zO 3 (.alloc 68)]
instance : Live zoo := ⟨[0]⟩
def zon : List SOp := [zO 4 (.alloc 69)]
instance : Live zon := ⟨[0,3]⟩
def zom : List SOp := [zO 5 (.assign (.const (.int .i64 0)))]
instance : Live zom := ⟨[0,3,4]⟩
def zol : List SOp := [zM 19 5,zM 20 0,zO 21 (.call ⟨.builtin .len,#[.tmp 20],#[67]⟩),zO 22 (.binOp .lss 3 (.tmp 19) (.tmp 21) 3)]
instance : Live zol := ⟨[0,3,4,5]⟩
def zok : List SOp := [zM 25 0,zM 26 5,zI 27 67 25 26,zL 28 71 27,zO 6 (.alloc 71),⟨none,.store 71 (.tmp 6) (.tmp 28),none⟩]
instance : Live zok := ⟨[0,3,4,5]⟩
def zoj : List SOp := [zF 29 71 6 1,zL 30 3 29,zO 31 (.binOp .and 3 (.tmp 30) (.const (.int .i64 7)) 3),zF 32 71 6 2,zL 33 3 32,zO 34 (.binOp .and 3 (.tmp 33) (.const (.int .i64 7)) 3),zG 7 31,zG 8 34]
instance : Live zoj := ⟨[0,3,4,5,6]⟩
def qia : List SOp := [zM 35 8,zI 36 68 3 35,zL 37 31 36,zM 38 8,zI 39 69 4 38,zL 40 29 39,zO 9 (.alloc 31),zO 10 (.alloc 29),⟨none,.store 31 (.tmp 9) (.tmp 37),none⟩,⟨none,.store 29 (.tmp 10) (.tmp 40),none⟩]
instance : Live qia := ⟨[0,3,4,5,6,7,8]⟩
instance : Rd qia := ⟨fun j => j == 3 || j == 4⟩
def z93 : List SOp := [zF 41 71 6 0,zL 42 3 41]
instance : Live z93 := ⟨[0,3,4,5,6,7,9,10]⟩
def z92 : List SOp := [zO 44 (.binOp .eql 3 (.tmp 42) (.const (.int .i64 1)) 3),zG 43 44]
instance : Live z92 := ⟨[0,3,4,5,6,7,9,10,42]⟩
def z91 : List SOp := [zF 46 71 6 3,zL 47 29 46,zO 48 (.call ⟨.value (.func 13),#[.tmp 47],#[29]⟩),zM 45 48,zX 49 45 0,zX 50 45 1,zO 11 (.alloc 31),⟨none,.store 31 (.tmp 11) (.tmp 49),none⟩,zG 12 50]
instance : Live z91 := ⟨[0,3,4,5,6,7,9,10]⟩
def z90 : List SOp := [zM 51 12,zF 52 71 6 3,zL 53 29 52,zO 54 (.call ⟨.value (.func 35),#[.tmp 53],#[29]⟩),zO 55 (.binOp .neq 32 (.tmp 51) (.tmp 54) 32)]
instance : Live z90 := ⟨[0,3,4,5,6,7,9,10,11,12]⟩
def z8z : List SOp := [zO 2 (.assign (.const (.bool false)))]
instance : Live z8z := ⟨[]⟩
def z8y : List SOp := [zM 56 12,zO 57 (.binOp .neq 32 (.tmp 56) (.const (.int .i64 0)) 32)]
instance : Live z8y := ⟨[0,3,4,5,6,7,9,10,11,12]⟩
def qi9 : List SOp := [zL 58 31 11,zF 59 71 6 3,zL 60 29 59,⟨none,.store 31 (.tmp 9) (.tmp 58),none⟩,⟨none,.store 29 (.tmp 10) (.tmp 60),none⟩]
instance : Live qi9 := ⟨[0,3,4,5,6,7,9,10,11]⟩
instance : Rd qi9 := ⟨fun j => j == 6 || j == 11⟩
def z8x : List SOp := [zO 62 (.binOp .eql 3 (.tmp 42) (.const (.int .i64 2)) 3),zG 61 62]
instance : Live z8x := ⟨[0,3,4,5,7,9,10,42]⟩
def z8w : List SOp := [zO 64 (.binOp .eql 3 (.tmp 42) (.const (.int .i64 3)) 3),zG 63 64]
instance : Live z8w := ⟨[0,3,4,5,7,42]⟩
def z8v : List SOp := [zM 65 7,zM 66 7,zO 67 (.build 31 #[]),zO 68 (.build 29 #[]),zI 69 68 3 65,⟨none,.store 31 (.tmp 69) (.tmp 67),none⟩,zI 70 69 4 66,⟨none,.store 29 (.tmp 70) (.tmp 68),none⟩]
instance : Live z8v := ⟨[0,3,4,5,7]⟩
def z8u : List SOp := [zM 72 7,zI 73 69 4 72,zL 74 29 73,zL 75 29 10,zO 76 (.call ⟨.value (.func 36),#[.tmp 74,.tmp 75],#[29,29]⟩),zM 71 76,zX 77 71 0,zX 78 71 1,zO 13 (.alloc 29),⟨none,.store 29 (.tmp 13) (.tmp 77),none⟩,zG 14 78]
instance : Live z8u := ⟨[0,3,4,5,7,9,10]⟩
def z8t : List SOp := [zM 80 7,zI 81 68 3 80,zL 82 31 81,zL 83 31 9,zO 84 (.call ⟨.value (.func 25),#[.tmp 82,.tmp 83],#[31,31]⟩),zM 79 84,zX 85 79 0,zX 86 79 1,zO 15 (.alloc 31),⟨none,.store 31 (.tmp 15) (.tmp 85),none⟩,zG 16 86]
instance : Live z8t := ⟨[0,3,4,5,7,9,13,14]⟩
def z8s : List SOp := [zM 87 14,zO 88 (.unOp .not 4 (.tmp 87))]
instance : Live z8s := ⟨[0,3,4,5,7,13,14,15,16]⟩
def z8r : List SOp := [zM 89 16,zO 90 (.binOp .eql 32 (.tmp 89) (.const (.int .i64 0)) 32),zM 91 90,⟨some 92,.load 31 (.tmp 15),some ((some 91),true)⟩,⟨some 93,.call ⟨.value (.func 26),#[.tmp 92],#[31]⟩,some ((some 91),true)⟩,⟨some 94,.unOp .not 4 (.tmp 93),some ((some 91),true)⟩,zO 95 (.pick (.tmp 91) (.tmp 94) (.const (.bool false)))]
instance : Live z8r := ⟨[0,3,4,5,15,16]⟩
def z8q : List SOp := [zO 2 (.assign (.const (.bool false)))]
instance : Live z8q := ⟨[]⟩
def z8p : List SOp := [zM 96 16,zO 97 (.binOp .neq 32 (.tmp 96) (.const (.int .i64 0)) 32),zM 98 97,⟨some 99,.load 31 (.tmp 15),some ((some 98),false)⟩,⟨some 100,.load 29 (.tmp 13),some ((some 98),false)⟩,⟨some 101,.call ⟨.value (.func 37),#[.tmp 100],#[29]⟩,some ((some 98),false)⟩,⟨some 102,.call ⟨.value (.func 15),#[.tmp 99,.tmp 101],#[31,31]⟩,some ((some 98),false)⟩,⟨some 103,.unOp .not 4 (.tmp 102),some ((some 98),false)⟩,zO 104 (.pick (.tmp 98) (.const (.bool true)) (.tmp 103))]
instance : Live z8p := ⟨[0,3,4,5,7,13,15,16]⟩
def z8o : List SOp := [zO 2 (.assign (.const (.bool false)))]
instance : Live z8o := ⟨[]⟩
def qi8 : List SOp := [zM 105 7,zM 106 7,zL 107 31 15,zL 108 29 13,zI 109 68 3 105,⟨none,.store 31 (.tmp 109) (.tmp 107),none⟩,zI 110 69 4 106,⟨none,.store 29 (.tmp 110) (.tmp 108),none⟩]
instance : Live qi8 := ⟨[0,3,4,5,7,13,15]⟩
instance : Rd qi8 := ⟨fun j => j == 13 || j == 15⟩
def z8n : List SOp := [zM 23 5,zO 24 (.binOp .add 3 (.tmp 23) (.const (.int .i64 1)) 3),zG 5 24]
instance : Live z8n := ⟨[0,3,4,5]⟩
def z8m : List SOp := [zO 2 (.assign (.const (.bool true)))]
instance : Live z8m := ⟨[]⟩
def quh : SC :=
 (.seq (.seq (.ops false zol) (.cond (.tmp 22) .skip (.exit 0))) (.seq (.block 1 (.seq (.ops false zok) (.seq (.ops true zoj) (.seq (.opsW [] qia) (.seq (.seq (.ops false z93) (.block 2 (.seq (.ops false z92) (.cond (.tmp 43) (.seq (.ops false z91) (.seq (.seq (.ops false z90) (.cond (.tmp 55) (.seq (.ops false z8z) .ret) .skip)) (.seq (.seq (.ops false z8y) (.cond (.tmp 57) (.exit 1) .skip)) (.opsW [] qi9)))) (.seq (.ops false z8x) (.cond (.tmp 61) .skip (.seq (.ops false z8w) (.cond (.tmp 63) (.seq (.ops false z8v) (.exit 1)) (.exit 1))))))))) (.seq (.ops true z8u) (.seq (.ops true z8t) (.seq (.seq (.ops false z8s) (.cond (.tmp 88) (.seq (.seq (.ops false z8r) (.cond (.tmp 95) (.seq (.ops false z8q) .ret) .skip)) (.exit 1)) .skip)) (.seq (.seq (.ops true z8p) (.cond (.tmp 104) (.seq (.ops false z8o) .ret) .skip)) (.opsW [] qi8)))))))))) (.ops false z8n)))
def t_k10 : SC :=
 (.seq (.ops false zor) (.seq (.seq (.ops false zoq) (.cond (.tmp 18) (.seq (.ops false zop) .ret) .skip)) (.seq (.ops false zoo) (.seq (.ops false zon) (.seq (.seq (.ops false zom) (.block 0 (.loop quh))) (.seq (.ops false z8m) .ret))))))
theorem it_k10 : FnIs Tryz.prog 10 111 [.tmp 2] t_k10 := ⟨Tryz.f10, _, Tryz.func10, rfl, rfl, rfl, rfl, by kernel_rfl⟩

structure Mov where
 kind : Int
 to : Int
 from_ : Int
 ev : Fct
def encM (m : Mov) : AVal := .agg [.int .i64 m.kind, .int .i64 m.to, .int .i64 m.from_, .sl 4 (q0a m.ev.adds), .sl 1 (q04 m.ev.gone.vec), .sl 3 (q0c m.ev.gone.cloud), .sl 3 (q08 m.ev.recs)]
def qj8 (l : List Mov) : List AVal := l.map encM
theorem encM_stb (m : Mov) : (encM m).stb = true := by simp [encM, q0k, AVal.stb, q03, q05, q02, q09]
theorem q3q (l : List Mov) : q0k (qj8 l) = true := q30 encM_stb
theorem zrb (l : List Mov) : (qj8 l).length = l.length := by simp [qj8]
theorem zrc {l : List Mov} {i : Nat} {m : Mov} (h : l[i]? = some m) : (qj8 l)[i]? = some (.agg [.int .i64 m.kind, .int .i64 m.to, .int .i64 m.from_, .sl 4 (q0a m.ev.adds), .sl 1 (q04 m.ev.gone.vec), .sl 3 (q0c m.ev.gone.cloud), .sl 3 (q08 m.ev.recs)]) := by
 unfold qj8
 rw [List.getElem?_map, h]
 rfl
def wtM (l : List Mov) : Nat := (l.map fun m => wtF m.ev + 1).sum
theorem qte {l : List Mov} {i : Nat} {m : Mov} (h : l[i]? = some m) : wtM (l.take (i + 1)) = wtM (l.take i) + (wtF m.ev + 1) := by
 unfold wtM
 rw [List.take_add_one, h]
 simp
theorem wtM_le (l : List Mov) (i : Nat) : wtM (l.take i) ≤ wtM l := by
 unfold wtM
 exact q7l ((List.take_sublist i l).map _)
theorem wtM_get {l : List Mov} {i : Nat} {m : Mov} (h : l[i]? = some m) : wtF m.ev ≤ wtM l := by
 have h1 := qte h
 have h2 := wtM_le l (i + 1)
 omega
theorem and7 (x : Int) : bitsA .and .i64 x 7 = some (x % 8) := by
 show some (IntKind.i64.wrap _) = _
 congr 1
 have h1 : (BitVec.ofInt IntKind.i64.bits x &&& BitVec.ofInt IntKind.i64.bits 7).toNat = (x % 8).toNat := by
  rw [BitVec.toNat_and]
  have h7 : (BitVec.ofInt IntKind.i64.bits 7).toNat = 2 ^ 3 - 1 := by decide
  rw [h7, Nat.and_two_pow_sub_one_eq_mod, BitVec.toNat_ofInt]
  show (x % ((2 ^ 64 : Nat) : Int)).toNat % 2 ^ 3 = _
  omega
 rw [h1]
 have h2 : 0 ≤ x % 8 := Int.emod_nonneg _ (by decide)
 have h3 : x % 8 < 8 := Int.emod_lt_of_pos _ (by decide)
 rw [Int.toNat_of_nonneg h2]
 exact q7i h2 (by omega)
def qba (R : List Swt) : List AVal := flat (R.map q40)
def qbb (R : List Fct) : List AVal := flat (R.map q5e)
theorem rowW_len (R : List Swt) : (qba R).length = R.length * 4 := by
 unfold qba
 rw [q0p (sz := 4) (fun x hx => by obtain ⟨s, _, rfl⟩ := List.mem_map.1 hx; rfl)]
 simp
theorem rowG_len (R : List Fct) : (qbb R).length = R.length * 4 := by
 unfold qbb
 rw [q0p (sz := 4) (fun x hx => by obtain ⟨s, _, rfl⟩ := List.mem_map.1 hx; rfl)]
 simp
theorem zf4 {xs : List AVal} (h : ∀ x ∈ xs, x.cells.length = 4) {a : Nat} {x : AVal} (ha : xs[a]? = some x) : ((flat xs).drop (a * 4)).take 4 = x.cells := by
 rw [← q8i h]
 have h' : ∀ y ∈ xs.drop a, y.cells.length = 4 := fun y hy => h y (List.mem_of_mem_drop hy)
 have := q61 h' 1
 rw [Nat.one_mul] at this
 rw [← this, q8n ha]
 simp [flat]
theorem qun {R : List Swt} {a : Nat} {s : Swt} (ha : R[a]? = some s) : ((qba R).drop (a * 4)).take 4 = [.sl 4 (q0a s.live), .sl 1 (q04 s.past.vec), .sl 3 (q0c s.past.cloud), .sl 3 (q08 s.defer)] :=
 zf4 (x := q40 s) (fun x hx => by obtain ⟨s, _, rfl⟩ := List.mem_map.1 hx; rfl) (by rw [List.getElem?_map, ha]; rfl)
theorem qup {R : List Fct} {a : Nat} {f : Fct} (ha : R[a]? = some f) : ((qbb R).drop (a * 4)).take 4 = [.sl 4 (q0a f.adds), .sl 1 (q04 f.gone.vec), .sl 3 (q0c f.gone.cloud), .sl 3 (q08 f.recs)] :=
 zf4 (x := q5e f) (fun x hx => by obtain ⟨s, _, rfl⟩ := List.mem_map.1 hx; rfl) (by rw [List.getElem?_map, ha]; rfl)
theorem qhw {R : List Swt} {a : Nat} (s : Swt) (ha : a < R.length) : q0i (qba R) (a * 4) [.sl 4 (q0a s.live), .sl 1 (q04 s.past.vec), .sl 3 (q0c s.past.cloud), .sl 3 (q08 s.defer)] = qba (R.set a s) := by
 have := qd6 (sz := 4) (xs := R.map q40) (j := a) (y := q40 R[a]) (y' := q40 s) (fun x hx => by obtain ⟨s, _, rfl⟩ := List.mem_map.1 hx; rfl) (by simp [ha]) rfl
 unfold qba
 rw [List.map_set]
 exact this.symm
theorem qhx {R : List Fct} {a : Nat} (f : Fct) (ha : a < R.length) : q0i (qbb R) (a * 4) [.sl 4 (q0a f.adds), .sl 1 (q04 f.gone.vec), .sl 3 (q0c f.gone.cloud), .sl 3 (q08 f.recs)] = qbb (R.set a f) := by
 have := qd6 (sz := 4) (xs := R.map q5e) (j := a) (y := q5e R[a]) (y' := q5e f) (fun x hx => by obtain ⟨s, _, rfl⟩ := List.mem_map.1 hx; rfl) (by simp [ha]) rfl
 unfold qbb
 rw [List.map_set]
 exact this.symm
theorem rowW_stb (R : List Swt) : q0k (qba R) = true := q9k (q3n (q30 q3f))
theorem rowF_stb (R : List Fct) : q0k (qbb R) = true := q9k (q3n (q30 qav))
theorem q1u : ∀ {a b c d : List AVal}, qd1 a b → qd1 c d → qd1 (a ++ c) (b ++ d)
 | [], [], _, _, _, h => h
 | x :: a, y :: b, _, _, h1, h2 => ⟨h1.1, q1u h1.2 h2⟩
 | [], _ :: _, _, _, h, _ => h.elim
 | _ :: _, [], _, _, h, _ => h.elim
theorem q1h : qd1 [.nil, .nil, .nil, .nil] [.sl 4 (q0a []), .sl 1 (q04 []), .sl 3 (q0c []), .sl 3 (q08 [])] := ⟨.inr ⟨rfl, 4, rfl⟩, .inr ⟨rfl, 1, rfl⟩, .inr ⟨rfl, 3, rfl⟩, .inr ⟨rfl, 3, rfl⟩, trivial⟩
structure HistI (l : List Mov) (i : Nat) (R : List Swt) (K : List Fct) : Prop where
 le : i ≤ l.length
 rl : R.length = 8
 kl : K.length = 8
 ex : ∃ E, (∀ x ∈ E, q3j x = 0) ∧ wtE E ≤ wtM (l.take i) ∧ ∀ (j : Nat) r k, R[j]? = some r → K[j]? = some k → Of E r k
theorem HistI.zero (l : List Mov) : HistI l 0 (List.replicate 8 noS) (List.replicate 8 noF) := by
 refine ⟨Nat.zero_le _, rfl, rfl, [], fun x hx => (nomatch hx), Nat.zero_le _, fun j r k hr hk => ?_⟩
 rw [List.getElem?_replicate] at hr hk
 split at hr
 ·rename_i h
  rw [if_pos h] at hk
  cases hr
  cases hk
  exact Of.no []
 ·cases hr
theorem HistI.set {l : List Mov} {i b : Nat} {R : List Swt} {K : List Fct} {E : List Fct} {s : Swt} {f : Fct} (hle : i ≤ l.length) (hR : R.length = 8) (hK : K.length = 8) (hE : ∀ x ∈ E, q3j x = 0) (hw : wtE E ≤ wtM (l.take i))
 (hO : ∀ (j : Nat) r k, R[j]? = some r → K[j]? = some k → Of E r k) (hb : b < 8) (hs : Of E s f) : HistI l i (R.set b s) (K.set b f) := by
 refine ⟨hle, by simpa using hR, by simpa using hK, E, hE, hw, fun j r k hr hk => ?_⟩
 by_cases hj : b = j
 ·subst hj
  rw [List.getElem?_set_self (by omega)] at hr hk
  cases hr
  cases hk
  exact hs
 ·rw [List.getElem?_set_ne hj] at hr hk
  exact hO j r k hr hk
theorem bits3 (x : Int) : ∃ a : Nat, a < 8 ∧ bitsA .and .i64 x 7 = some (a : Int) := by
 have h2 : 0 ≤ x % 8 := Int.emod_nonneg _ (by decide)
 have h3 : x % 8 < 8 := Int.emod_lt_of_pos _ (by decide)
 refine ⟨(x % 8).toNat, by omega, ?_⟩
 rw [and7, Int.toNat_of_nonneg h2]
theorem sub32 : qd1 [.nil, .nil, .nil, .nil, .nil, .nil, .nil, .nil, .nil, .nil, .nil, .nil, .nil, .nil, .nil, .nil, .nil, .nil, .nil, .nil, .nil, .nil, .nil, .nil, .nil, .nil, .nil, .nil, .nil, .nil, .nil, .nil] (qba (List.replicate 8 noS)) :=
 q1u q1h (q1u q1h (q1u q1h (q1u q1h (q1u q1h (q1u q1h (q1u q1h (q1u q1h (show qd1 [] [] from trivial))))))))
theorem sub32F : qd1 [.nil, .nil, .nil, .nil, .nil, .nil, .nil, .nil, .nil, .nil, .nil, .nil, .nil, .nil, .nil, .nil, .nil, .nil, .nil, .nil, .nil, .nil, .nil, .nil, .nil, .nil, .nil, .nil, .nil, .nil, .nil, .nil] (qbb (List.replicate 8 noF)) :=
 q1u q1h (q1u q1h (q1u q1h (q1u q1h (q1u q1h (q1u q1h (q1u q1h (q1u q1h (show qd1 [] [] from trivial))))))))
theorem qdt {cs vs us : List AVal} (o : Nat) (h : qd1 vs us) : qd1 (q0i cs o vs) (q0i cs o us) := by
 unfold q0i
 rw [qd0 h]
 exact q1u (q1u (q1s _) h) (q1s _)
theorem ev_k10 (l : List Mov) (hw : wtM l ≤ 1400000) (hl : l.length ≤ 1000000000) : Ev (En Tryz.prog rfl).P 10 [.sl 7 (qj8 l)] (.ret (.bool true)) := by
 refine Ev.of_body it_k10 (by simp) (Run.start ?_)
 unfold t_k10
 have hS := qc8
 have e1 := zrb l
 have rw1 := rowW_stb
 have rf1 := rowF_stb
 (have hF := True.intro; refine q01 (k:=?_); clear hF)
 refine q00 [] (he := ev_k24) (k:=?_)
 (have hF := True.intro; refine q01 (k:=?_); clear hF)
 refine Run.wk (Wk.trans (Wk.cells_nil (k := 3) (ds := qba (List.replicate 8 noS)) rfl sub32) (Wk.cells_nil (k := 4) (ds := qbb (List.replicate 8 noF)) rfl sub32F)) ?_
 refine Run.while (σ := Nat × List Swt × List Fct) (fun z => ⟨tms [(0, .sl 7 (qj8 l)), (3, .ptr 3 0), (4, .ptr 4 0), (5, .int .i64 (z.1 : Int))], mms [(3, .cells (qba z.2.1)), (4, .cells (qbb z.2.2))]⟩)
  (fun z => HistI l z.1 z.2.1 z.2.2) (fun z => l.length - z.1) (0, List.replicate 8 noS, List.replicate 8 noF) (have hW := (aI @q3q (aI @rw1 @rf1)); q0g) (HistI.zero l) ?_
 rintro ⟨i, R, K⟩ hI
 obtain ⟨hi, hR, hK, E, hE, hwE, hO⟩ := hI
 simp only at hi hR hK hwE hO
 unfold quh
 by_cases hlt : i < l.length
 case' neg =>
  (have hF := @e1; refine q01 (k:=?_); clear hF)
  exact Fin.tmp' rfl rfl
 obtain ⟨m, he⟩ : ∃ m, l[i]? = some m := ⟨l[i], by simp [hlt]⟩
 have g1 := zrc he
 have hwm := wtM_get he
 have hwt := qte he
 have hwl := wtM_le l (i + 1)
 obtain ⟨mk, mt, mf, ev⟩ := m
 simp only at g1 hwm hwt
 have n1 : (qba R).length = 32 := by rw [rowW_len, hR]
 have n2 : (qbb K).length = 32 := by rw [rowG_len, hK]
 obtain ⟨a, ha8, hfa⟩ := bits3 mf
 obtain ⟨b, hb8, hfb⟩ := bits3 mt
 obtain ⟨sa, hsa⟩ : ∃ s, R[a]? = some s := ⟨R[a], by simp [hR, ha8]⟩
 obtain ⟨sb, hsb⟩ : ∃ s, R[b]? = some s := ⟨R[b], by simp [hR, hb8]⟩
 obtain ⟨fa, hka⟩ : ∃ s, K[a]? = some s := ⟨K[a], by simp [hK, ha8]⟩
 obtain ⟨fb, hkb⟩ : ∃ s, K[b]? = some s := ⟨K[b], by simp [hK, hb8]⟩
 have ha4 : a * 4 + 4 ≤ 32 := by omega
 have hb4 : b * 4 + 4 ≤ 32 := by omega
 have q1 := qun hsa
 have q2 := qup hka
 have q3 := qun hsb
 have q4 := qup hkb
 have hskip : HistI l (i + 1) R K := ⟨hlt, hR, hK, E, hE, by omega, hO⟩
 by_cases k1 : mk = 1
 ·subst k1
  have c1 := ev_k13 ev (by omega)
  have c2 := ev_k35 ev (by omega)
  by_cases he0 : q3j ev = 0
  case' neg =>
   generalize q3j ev = er at *
   have hee : decide (er = er) = true := decide_eq_true rfl
   generalize ze9 ev = s at *
   have hcs := q81 s.live s.past.vec s.past.cloud s.defer
   unfold q40 q5e at c1
   unfold q5e at c2
   (have hF := (aI (aI (aI @e1 @n1) (aI @n2 (aI @g1 @q1))) (aI (aI @q2 @hfa) (aI @hfb (aI @ha4 @hb4)))); refine q6q (k:=?_); clear hF)
   refine q00 [_] (he := c1) (k:=?_)
   (have hF := (aI @e1 @hcs); refine q6q (k:=?_); clear hF)
   refine q00 [_] (he := c2) (k:=?_)
   (have hF := (aI (aI @e1 @hcs) (aI @hee @he0)); refine q6q (k:=?_); clear hF)
   (refine Fin.nextW ((i + 1, R, K)) ?_ (have hW := (aI @q3q (aI @rw1 @rf1)); q0g); (try dsimp only))
   exact ⟨hskip, by omega⟩
  obtain ⟨E2, hE2, hwE2', hO2, hs⟩ : ∃ E2, (∀ x ∈ E2, q3j x = 0) ∧ wtE E2 ≤ wtM (l.take (i + 1)) ∧ (∀ (j : Nat) r k, R[j]? = some r → K[j]? = some k → Of E2 r k) ∧ Of E2 (ze9 ev) ev := by
   refine ⟨E ++ [ev], fun x hx => ?_, ?_, fun j r k hr hk => (hO j r k hr hk).mono fun x hx => List.mem_append.2 (.inl hx), Of.one he0 (by simp)⟩
   ·rcases List.mem_append.1 hx with hx | hx
    ·exact hE x hx
    ·rw [List.mem_singleton.1 hx]; exact he0
   ·rw [zec, hwt]
    have : wtE [ev] = wtF ev + 1 := by simp [wtE]
    omega
  have hskip2 : HistI l (i + 1) R K := hskip
  rw [he0] at c1 c2
  generalize hsd : ze9 ev = s at *
  have hfd : ev = ev := rfl
  have hcs := q81 s.live s.past.vec s.past.cloud s.defer
  unfold q40 q5e at c1
  unfold q5e at c2
  have hwE2 : wtE E2 ≤ 1400000 := by omega
  have ob := hO2 b sb fb hsb hkb
  obtain ⟨u1, u2⟩ := hs.wts hE2
  obtain ⟨v1, v2⟩ := ob.wts hE2
  have c5 := ev_k36 fb ev (by omega) (by omega)
  have c6 := qgz sb s (by omega) (by omega)
  have hjw := zb9 sb s
  have c7 := ev_k26 (q86 sb s) (by omega)
  have hjoin := fun L hL => Of.join ob hs (L := L) hL
  cases hL : qbu fb.adds ev.adds with
  | none =>
   have hb5 : (qbu fb.adds ev.adds).isSome = false := by rw [hL]; rfl
   rw [hb5] at c5
   generalize qcw fb ev = u at *
   have hcu := q81 u.adds u.gone.vec u.gone.cloud u.recs
   by_cases hj : qcm sb s = 0
   ·rw [qbm (qf0 hj)] at c7
    rw [hj] at c6
    generalize q86 sb s = j at *
    have hcj := q81 j.live j.past.vec j.past.cloud j.defer
    unfold q5e at c5
    unfold q40 at c6
    unfold q40 at c7
    (have hF := (aI (aI (aI @e1 @n1) (aI @n2 (aI @g1 @q1))) (aI (aI @q2 @hfa) (aI @hfb (aI @ha4 @hb4)))); refine q6q (k:=?_); clear hF)
    refine q00 [_] (he := c1) (k:=?_)
    (have hF := (aI @e1 @hcs); refine q6q (k:=?_); clear hF)
    refine q00 [_] (he := c2) (k:=?_)
    (have hF := (aI (aI @e1 (aI @n1 @n2)) (aI (aI @hcs @q3) (aI @q4 @hb4))); refine q6q (k:=?_); clear hF)
    refine q00 [_, _] (he := c5) (k:=?_)
    (have hF := (aI (aI @e1 (aI @n1 @n2)) (aI (aI @q3 @q4) (aI @hb4 @hcu))); refine q6q (k:=?_); clear hF)
    refine q00 [_, _] (he := c6) (k:=?_)
    (have hF := (aI (aI (aI @e1 @n1) (aI @n2 @q3)) (aI (aI @q4 @hb4) (aI @hcu @hcj))); refine q6q (k:=?_); clear hF)
    refine q00 [_] (he := c7) (k:=?_)
    (have hF := (aI (aI (aI @e1 @n1) (aI @n2 @q3)) (aI (aI @q4 @hb4) (aI @hcu @hcj))); refine q6q (k:=?_); clear hF)
    (refine Fin.nextW ((i + 1, R, K)) ?_ (have hW := (aI @q3q (aI @rw1 @rf1)); q0g); (try dsimp only))
    exact ⟨hskip2, by omega⟩
   ·generalize qcm sb s = ej at *
    generalize q86 sb s = j at *
    have hcj := q81 j.live j.past.vec j.past.cloud j.defer
    unfold q5e at c5
    unfold q40 at c6
    (have hF := (aI (aI (aI @e1 @n1) (aI @n2 (aI @g1 @q1))) (aI (aI @q2 @hfa) (aI @hfb (aI @ha4 @hb4)))); refine q6q (k:=?_); clear hF)
    refine q00 [_] (he := c1) (k:=?_)
    (have hF := (aI @e1 @hcs); refine q6q (k:=?_); clear hF)
    refine q00 [_] (he := c2) (k:=?_)
    (have hF := (aI (aI @e1 (aI @n1 @n2)) (aI (aI @hcs @q3) (aI @q4 @hb4))); refine q6q (k:=?_); clear hF)
    refine q00 [_, _] (he := c5) (k:=?_)
    (have hF := (aI (aI @e1 (aI @n1 @n2)) (aI (aI @q3 @q4) (aI @hb4 @hcu))); refine q6q (k:=?_); clear hF)
    refine q00 [_, _] (he := c6) (k:=?_)
    (have hF := (aI (aI (aI @e1 @n1) (aI @n2 @q3)) (aI (aI @q4 @hb4) (aI @hcu (aI @hcj @hj)))); refine q6q (k:=?_); clear hF)
    (refine Fin.nextW ((i + 1, R, K)) ?_ (have hW := (aI @q3q (aI @rw1 @rf1)); q0g); (try dsimp only))
    exact ⟨hskip2, by omega⟩
  | some L =>
   obtain ⟨g2, g3, g4⟩ := hjoin L hL
   have hb5 : (qbu fb.adds ev.adds).isSome = true := by rw [hL]; rfl
   rw [hb5] at c5
   rw [g2, g3] at c6
   obtain ⟨w1, w2⟩ := g4.wts hE2
   have c8 := ev_k37 (qcw fb ev) (by omega)
   have c9 := q6w (stF (qcw fb ev)) (stF (qcw fb ev)) (by omega) (by omega)
   rw [qj4] at c9
   have hset := HistI.set (i := i + 1) hlt hR hK hE2 hwE2' hO2 hb8 g4
   have t1 := qhw (R := R) (stF (qcw fb ev)) (by omega : b < R.length)
   have t2 := qhx (R := K) (qcw fb ev) (by omega : b < K.length)
   simp only [q0i, List.length_cons, List.length_nil, Nat.zero_add, Nat.reduceAdd, List.append_assoc, List.cons_append, List.nil_append] at t1 t2
   generalize qcw fb ev = u at *
   generalize stF u = j at *
   have hcu := q81 u.adds u.gone.vec u.gone.cloud u.recs
   have hcj := q81 j.live j.past.vec j.past.cloud j.defer
   unfold q5e at c5
   unfold q40 at c6
   unfold q40 q5e at c8
   unfold q40 at c9
   (have hF := (aI (aI (aI @e1 @n1) (aI @n2 (aI @g1 @q1))) (aI (aI @q2 @hfa) (aI @hfb (aI @ha4 @hb4)))); refine q6q (k:=?_); clear hF)
   refine q00 [_] (he := c1) (k:=?_)
   (have hF := (aI @e1 @hcs); refine q6q (k:=?_); clear hF)
   refine q00 [_] (he := c2) (k:=?_)
   (have hF := (aI (aI @e1 (aI @n1 @n2)) (aI (aI @hcs @q3) (aI @q4 @hb4))); refine q6q (k:=?_); clear hF)
   refine q00 [_, _] (he := c5) (k:=?_)
   (have hF := (aI (aI @e1 (aI @n1 @n2)) (aI (aI @q3 @q4) (aI @hb4 @hcu))); refine q6q (k:=?_); clear hF)
   refine q00 [_, _] (he := c6) (k:=?_)
   (have hF := (aI (aI (aI @e1 @n1) (aI @n2 @q3)) (aI (aI @q4 @hb4) (aI @hcu @hcj))); refine q6q (k:=?_); clear hF)
   refine q00 [_] (he := c8) (k:=?_)
   (have hF := (aI (aI (aI @e1 @n1) (aI @n2 @q3)) (aI (aI @q4 @hb4) (aI @hcu @hcj))); refine q6q (k:=?_); clear hF)
   refine q00 [_, _] (he := c9) (k:=?_)
   (have hF := (aI (aI (aI @e1 @n1) (aI @n2 @q3)) (aI (aI @q4 @hb4) (aI @hcu @hcj))); refine q6q (k:=?_); clear hF)
   (refine Fin.nextW ((i + 1, R.set b j, K.set b u)) ?_ (have hW := (aI (aI @q3q @rw1) (aI @rf1 (aI @t1 @t2))); q0g); (try dsimp only))
   exact ⟨hset, by omega⟩
 ·by_cases k2 : mk = 2
  case' neg =>
   by_cases k3 : mk = 3
   ·subst k3
    have hset := HistI.set (i := i + 1) hlt hR hK hE (by omega) hO hb8 (Of.no E)
    have t1 := qhw (R := R) noS (by omega : b < R.length)
    have t2 := qhx (R := K) noF (by omega : b < K.length)
    have t3 := qdt (cs := qba R) (b * 4) q1h
    have t4 := qdt (cs := qbb K) (b * 4) q1h
    rw [show [AVal.sl 4 (q0a []), .sl 1 (q04 []), .sl 3 (q0c []), .sl 3 (q08 [])] = [.sl 4 (q0a noS.live), .sl 1 (q04 noS.past.vec), .sl 3 (q0c noS.past.cloud), .sl 3 (q08 noS.defer)] from rfl, t1] at t3
    rw [show [AVal.sl 4 (q0a []), .sl 1 (q04 []), .sl 3 (q0c []), .sl 3 (q08 [])] = [.sl 4 (q0a noF.adds), .sl 1 (q04 noF.gone.vec), .sl 3 (q0c noF.gone.cloud), .sl 3 (q08 noF.recs)] from rfl, t2] at t4
    unfold q0i at t3 t4
    (have hF := (aI (aI (aI @e1 (aI @n1 @n2)) (aI @g1 (aI @q1 @q2))) (aI (aI @q3 (aI @q4 @hfa)) (aI @hfb (aI @ha4 @hb4)))); refine q6q (k:=?_); clear hF)
    refine Fin.nextW (i + 1, R.set b noS, K.set b noF) ?_ (Wk.trans (Wk.cells_nil (k := 3) (ds := qba (R.set b noS)) rfl t3) (Wk.trans (Wk.cells_nil (k := 4) (ds := qbb (K.set b noF)) rfl t4) (have hW := (aI @q3q (aI @rw1 @rf1)); q0g)))
    exact ⟨hset, by simp only; omega⟩
   ·(have hF := (aI (aI (aI @e1 (aI @n1 @n2)) (aI (aI @g1 @q1) (aI @q2 @q3))) (aI (aI (aI @q4 @hfa) (aI @hfb @ha4)) (aI (aI @hb4 @k1) (aI @k2 @k3)))); refine q6q (k:=?_); clear hF)
    (refine Fin.nextW ((i + 1, R, K)) ?_ (have hW := (aI @q3q (aI @rw1 @rf1)); q0g); (try dsimp only))
    exact ⟨hskip, by omega⟩
  subst k2
  obtain ⟨E2, hE2, hwE2', hO2⟩ : ∃ E2, (∀ x ∈ E2, q3j x = 0) ∧ wtE E2 ≤ wtM (l.take (i + 1)) ∧ (∀ (j : Nat) r k, R[j]? = some r → K[j]? = some k → Of E2 r k) := ⟨E, hE, by omega, hO⟩
  have hs := hO2 a sa fa hsa hka
  have hskip2 : HistI l (i + 1) R K := hskip
  have hwE2 : wtE E2 ≤ 1400000 := by omega
  have ob := hO2 b sb fb hsb hkb
  obtain ⟨u1, u2⟩ := hs.wts hE2
  obtain ⟨v1, v2⟩ := ob.wts hE2
  have c5 := ev_k36 fb fa (by omega) (by omega)
  have c6 := qgz sb sa (by omega) (by omega)
  have hjw := zb9 sb sa
  have c7 := ev_k26 (q86 sb sa) (by omega)
  have hjoin := fun L hL => Of.join ob hs (L := L) hL
  cases hL : qbu fb.adds fa.adds with
  | none =>
   have hb5 : (qbu fb.adds fa.adds).isSome = false := by rw [hL]; rfl
   rw [hb5] at c5
   generalize qcw fb fa = u at *
   have hcu := q81 u.adds u.gone.vec u.gone.cloud u.recs
   by_cases hj : qcm sb sa = 0
   ·rw [qbm (qf0 hj)] at c7
    rw [hj] at c6
    generalize q86 sb sa = j at *
    have hcj := q81 j.live j.past.vec j.past.cloud j.defer
    unfold q5e at c5
    unfold q40 at c6
    unfold q40 at c7
    (have hF := (aI (aI (aI @e1 (aI @n1 @n2)) (aI @g1 (aI @q1 @q2))) (aI (aI @q3 (aI @q4 @hfa)) (aI @hfb (aI @ha4 @hb4)))); refine q6q (k:=?_); clear hF)
    refine q00 [_, _] (he := c5) (k:=?_)
    (have hF := (aI (aI @e1 (aI @n1 @n2)) (aI (aI @q3 @q4) (aI @hb4 @hcu))); refine q6q (k:=?_); clear hF)
    refine q00 [_, _] (he := c6) (k:=?_)
    (have hF := (aI (aI (aI @e1 @n1) (aI @n2 @q3)) (aI (aI @q4 @hb4) (aI @hcu @hcj))); refine q6q (k:=?_); clear hF)
    refine q00 [_] (he := c7) (k:=?_)
    (have hF := (aI (aI (aI @e1 @n1) (aI @n2 @q3)) (aI (aI @q4 @hb4) (aI @hcu @hcj))); refine q6q (k:=?_); clear hF)
    (refine Fin.nextW ((i + 1, R, K)) ?_ (have hW := (aI @q3q (aI @rw1 @rf1)); q0g); (try dsimp only))
    exact ⟨hskip2, by omega⟩
   ·generalize qcm sb sa = ej at *
    generalize q86 sb sa = j at *
    have hcj := q81 j.live j.past.vec j.past.cloud j.defer
    unfold q5e at c5
    unfold q40 at c6
    (have hF := (aI (aI (aI @e1 (aI @n1 @n2)) (aI @g1 (aI @q1 @q2))) (aI (aI @q3 (aI @q4 @hfa)) (aI @hfb (aI @ha4 @hb4)))); refine q6q (k:=?_); clear hF)
    refine q00 [_, _] (he := c5) (k:=?_)
    (have hF := (aI (aI @e1 (aI @n1 @n2)) (aI (aI @q3 @q4) (aI @hb4 @hcu))); refine q6q (k:=?_); clear hF)
    refine q00 [_, _] (he := c6) (k:=?_)
    (have hF := (aI (aI (aI @e1 @n1) (aI @n2 @q3)) (aI (aI @q4 @hb4) (aI @hcu (aI @hcj @hj)))); refine q6q (k:=?_); clear hF)
    (refine Fin.nextW ((i + 1, R, K)) ?_ (have hW := (aI @q3q (aI @rw1 @rf1)); q0g); (try dsimp only))
    exact ⟨hskip2, by omega⟩
  | some L =>
   obtain ⟨g2, g3, g4⟩ := hjoin L hL
   have hb5 : (qbu fb.adds fa.adds).isSome = true := by rw [hL]; rfl
   rw [hb5] at c5
   rw [g2, g3] at c6
   obtain ⟨w1, w2⟩ := g4.wts hE2
   have c8 := ev_k37 (qcw fb fa) (by omega)
   have c9 := q6w (stF (qcw fb fa)) (stF (qcw fb fa)) (by omega) (by omega)
   rw [qj4] at c9
   have hset := HistI.set (i := i + 1) hlt hR hK hE2 hwE2' hO2 hb8 g4
   have t1 := qhw (R := R) (stF (qcw fb fa)) (by omega : b < R.length)
   have t2 := qhx (R := K) (qcw fb fa) (by omega : b < K.length)
   simp only [q0i, List.length_cons, List.length_nil, Nat.zero_add, Nat.reduceAdd, List.append_assoc, List.cons_append, List.nil_append] at t1 t2
   generalize qcw fb fa = u at *
   generalize stF u = j at *
   have hcu := q81 u.adds u.gone.vec u.gone.cloud u.recs
   have hcj := q81 j.live j.past.vec j.past.cloud j.defer
   unfold q5e at c5
   unfold q40 at c6
   unfold q40 q5e at c8
   unfold q40 at c9
   (have hF := (aI (aI (aI @e1 (aI @n1 @n2)) (aI @g1 (aI @q1 @q2))) (aI (aI @q3 (aI @q4 @hfa)) (aI @hfb (aI @ha4 @hb4)))); refine q6q (k:=?_); clear hF)
   refine q00 [_, _] (he := c5) (k:=?_)
   (have hF := (aI (aI @e1 (aI @n1 @n2)) (aI (aI @q3 @q4) (aI @hb4 @hcu))); refine q6q (k:=?_); clear hF)
   refine q00 [_, _] (he := c6) (k:=?_)
   (have hF := (aI (aI (aI @e1 @n1) (aI @n2 @q3)) (aI (aI @q4 @hb4) (aI @hcu @hcj))); refine q6q (k:=?_); clear hF)
   refine q00 [_] (he := c8) (k:=?_)
   (have hF := (aI (aI (aI @e1 @n1) (aI @n2 @q3)) (aI (aI @q4 @hb4) (aI @hcu @hcj))); refine q6q (k:=?_); clear hF)
   refine q00 [_, _] (he := c9) (k:=?_)
   (have hF := (aI (aI (aI @e1 @n1) (aI @n2 @q3)) (aI (aI @q4 @hb4) (aI @hcu @hcj))); refine q6q (k:=?_); clear hF)
   (refine Fin.nextW ((i + 1, R.set b j, K.set b u)) ?_ (have hW := (aI (aI @q3q @rw1) (aI @rf1 (aI @t1 @t2))); q0g); (try dsimp only))
   exact ⟨hset, by omega⟩


section
def mdot {α : Type} (kd : α → Rn) (d : Rn) : List α → Nat → Option (Nat × α)
 | [], _ => none
 | e :: r, i => if kd e = d then some (i, e) else mdot kd d r (i + 1)
def qpz {α : Type} (kd : α → Rn) (f : α → AVal) (l : List α) : List (AVal × AVal) := l.map fun e => (.agg [.int .i64 (kd e).1, .int .i64 (kd e).2], f e)
theorem eqA_dot (a b : Rn) : eqA TE0 EQ0 20 41 (.agg [.int .i64 a.1, .int .i64 a.2]) (.agg [.int .i64 b.1, .int .i64 b.2]) = some (decide (a.1 = b.1) && (decide (a.2 = b.2) && true)) := by
 simp (disch := omega) only [↓Bp, Bq, qb3, qfs, zse, TD.isAgg, AVal.known, AVal.cells, AVal.one, AVal.plain, cst, reduceCtorEq, ↓reduceIte, Nat.reduceAdd, Nat.reduceMul, Nat.reduceLeDiff, Nat.reduceEqDiff, Nat.reduceBEq, Bt, bqs, eqA, zdo, EQ0, eqL]
theorem qq0 {α : Type} (kd : α → Rn) (f : α → AVal) (d : Rn) : ∀ (l : List α) (i : Nat),
 q9p TE0 EQ0 41 (.agg [.int .i64 d.1, .int .i64 d.2]) (qpz kd f l) i = some ((mdot kd d l i).map fun p => (p.1, f p.2))
 | [], i => rfl
 | e :: l, i => by
  show q9p TE0 EQ0 41 (.agg [.int .i64 d.1, .int .i64 d.2]) ((.agg [.int .i64 (kd e).1, .int .i64 (kd e).2], f e) :: qpz kd f l) i = _
  rw [q9p, eqA_dot, mdot]
  by_cases h : kd e = d
  ·subst h
   simp [zps, qre]
  ·have hb : (decide (d.1 = (kd e).1) && (decide (d.2 = (kd e).2) && true)) = false := by
    rw [← Bool.not_eq_true]
    intro hh
    simp only [Bool.and_eq_true, decide_eq_true_eq, and_true] at hh
    exact h (Prod.ext hh.1.symm hh.2.symm)
   rw [hb, if_neg h]
   simp only
   rw [qq0 kd f d l (i + 1)]
theorem qq3 {α : Type} {kd : α → Rn} {d : Rn} : ∀ {l : List α} {i : Nat}, (∀ e ∈ l, kd e ≠ d) → mdot kd d l i = none
 | [], _, _ => rfl
 | e :: l, i, h => by
  rw [mdot, if_neg (h e (by simp))]
  exact qq3 fun x hx => h x (by simp [hx])
theorem zb2 {α : Type} {kd : α → Rn} {d : Rn} : ∀ {l : List α} {i : Nat}, mdot kd d l i = none → ∀ e ∈ l, kd e ≠ d
 | [], _, _, e, he => by cases he
 | x :: l, i, h, e, he => by
  rw [mdot] at h
  split at h
  ·cases h
  ·rename_i hx
   rcases List.mem_cons.1 he with rfl | he
   ·exact hx
   ·exact zb2 h e he
def mstb (es : List (AVal × AVal)) : Bool := es.all fun p => p.1.stb && p.2.stb
theorem map_no {K : Nat → Bool} {es : List (AVal × AVal)} (h : mstb es = true) : (ABlk.map es).no K = true := by
 show es.all (fun p => p.1.no K && p.2.no K) = true
 rw [List.all_eq_true]
 intro p hp
 have := List.all_eq_true.1 h p hp
 rw [Bool.and_eq_true] at this ⊢
 exact ⟨q1m this.1, q1m this.2⟩
theorem zcp {α : Type} {kd : α → Rn} {f : α → AVal} (hf : ∀ e, (f e).stb = true) (l : List α) : mstb (qpz kd f l) = true := by
 unfold mstb
 rw [List.all_eq_true]
 intro p hp
 obtain ⟨e, _, rfl⟩ := List.mem_map.1 hp
 show (true && (f e).stb) = true
 rw [hf]
 rfl
section
variable {n : Nat} {T : q25} {M : Mem}
theorem zew {l : List (Nat × AVal)} {m : List (Nat × ABlk)}
 (h : allT T l := by repeat (first | exact trivial | refine ⟨by with_unfolding_all rfl, ?_⟩ | (refine ⟨by simp [↓q7k, ↓q48, ↓q5u, ↓NoM', hW], ?_⟩)))
 (hm : allM M m := by repeat (first | exact trivial | refine ⟨by with_unfolding_all rfl, ?_⟩ | (refine ⟨by simp [↓q7k, ↓q48, ↓q5u, ↓NoM', hW], ?_⟩)))
 (hn : qrg (qs6 m) l := by repeat (first | exact trivial | (refine ⟨?_, ?_⟩; focus (first | with_unfolding_all rfl | (apply q1m; simp only [q0k, AVal.stb, q03, q06, q11, q05, q0s, q0d, q17, Bool.and_true, Bool.true_and, Bool.and_self, hW]; done)))))
 (hb : qt8 (qs6 m) m := by repeat (first | exact trivial | (refine ⟨?_, ?_⟩; focus (first | with_unfolding_all rfl | (apply map_no; simp only [hW]; done) | (apply qhg; simp only [q0k, AVal.stb, q03, q06, q11, q05, q0s, q0d, q17, Bool.and_true, Bool.true_and, Bool.and_self, hW]; done) | exact q2z _ _ | exact qj9 _ _ | exact qjb _ _ | (apply qax; simp only [q0k, AVal.stb, q03, q06, q11, q05, q0s, q0d, q17, Bool.and_true, Bool.true_and, Bool.and_self, hW]; done) | (apply qjf; simp only [qjg, zbr, List.all_cons, List.all_nil, q0k, AVal.stb, q03, q06, q11, q05, q0s, q0d, q17, Bool.and_true, Bool.true_and, Bool.and_self, hW]; done) | (simp [ABlk.no, AVal.noC, AVal.no, AVal.stb, q0k, q03, q06, q11, q05, q0s, q0d, q17, hW]; done))))) :
 Wk n ⟨T, M⟩ ⟨tms l, mms m⟩ := Wk.toL l m h hm hn hb
end
open Classical in
noncomputable def clsh (a b : Swt) : Bool := decide (Clash a.live b.live)
end
def zme : List SOp := [zO 2 (.assign (.const (.slice none 0 0)))]
instance : Live zme := ⟨[0]⟩
def zmd : List SOp := [zO 6 (.makeMap 121 none),zG 3 6]
instance : Live zmd := ⟨[0]⟩
def zmc : List SOp := [zO 4 (.assign (.const (.slice none 0 0)))]
instance : Live zmc := ⟨[0,3]⟩
def zmb : List SOp := [zO 5 (.assign (.const (.int .i64 0)))]
instance : Live zmb := ⟨[0,3,4]⟩
def zma : List SOp := [zM 7 5,zM 8 0,zO 9 (.call ⟨.builtin .len,#[.tmp 8],#[77]⟩),zO 10 (.binOp .lss 3 (.tmp 7) (.tmp 9) 3)]
instance : Live zma := ⟨[0,3,4,5]⟩
def zm9 : List SOp := [zM 13 0,zM 14 5,zI 15 77 13 14,zL 16 29 15,zO 17 (.call ⟨.value (.func 35),#[.tmp 16],#[29]⟩),zO 18 (.binOp .neq 32 (.tmp 17) (.const (.int .i64 0)) 32)]
instance : Live zm9 := ⟨[0,3,4,5]⟩
def zm8 : List SOp := [zM 19 0,zM 20 5,zI 21 77 19 20,zF 22 29 21 0,zL 23 22 22,zO 24 (.call ⟨.builtin .len,#[.tmp 23],#[22]⟩),zO 25 (.binOp .gtr 3 (.tmp 24) (.const (.int .i64 0)) 3)]
instance : Live zm8 := ⟨[0,3,4,5]⟩
def zm7 : List SOp := [zM 26 3,zM 27 0,zM 28 5,zI 29 77 27 28,zF 30 29 29 0,zL 31 22 30,zO 32 (.indexAddr 22 (.tmp 31) (.const (.int .i64 0))),zF 33 62 32 0,zL 34 41 33,zO 35 (.lookup 121 (.tmp 26) (.tmp 34) false),zO 36 (.binOp .eql 3 (.tmp 35) (.const (.int .i64 1)) 3)]
instance : Live zm7 := ⟨[0,3,4,5]⟩
def zm6 : List SOp := [zM 37 3,zM 38 0,zM 39 5,zI 40 77 38 39,zF 41 29 40 0,zL 42 22 41,zO 43 (.indexAddr 22 (.tmp 42) (.const (.int .i64 0))),zF 44 62 43 0,zL 45 41 44,⟨none,.mapUpdate 121 (.tmp 37) (.tmp 45) (.const (.int .i64 1)),none⟩]
instance : Live zm6 := ⟨[0,3,4,5]⟩
def qwu : List SOp := [zM 46 4,zM 47 0,zM 48 5,zI 49 77 47 48,zL 50 29 49,zO 51 (.buildSlice 77 1 #[(0,.tmp 50)]),zO 52 (.call ⟨.builtin .append,#[.tmp 46,.tmp 51],#[77,77]⟩),zG 4 52]
instance : Live qwu := ⟨[0,3,4,5]⟩
def qwt : List SOp := [zM 11 5,zO 12 (.binOp .add 3 (.tmp 11) (.const (.int .i64 1)) 3),zG 5 12]
instance : Live qwt := ⟨[0,3,4,5]⟩
def qws : List SOp := [zM 53 4,zG 2 53]
instance : Live qws := ⟨[4]⟩
def qu9 : SC :=
 (.seq (.seq (.ops false zma) (.cond (.tmp 10) .skip (.exit 0))) (.seq (.block 1 (.seq (.seq (.ops false zm9) (.cond (.tmp 18) (.exit 1) .skip)) (.seq (.seq (.ops false zm8) (.cond (.tmp 25) (.seq (.seq (.ops false zm7) (.cond (.tmp 36) (.exit 1) .skip)) (.ops false zm6)) .skip)) (.ops false qwu)))) (.ops false qwt)))
def t_k38 : SC :=
 (.seq (.ops false zme) (.seq (.ops false zmd) (.seq (.ops false zmc) (.seq (.seq (.ops false zmb) (.block 0 (.loop qu9))) (.seq (.ops false qws) .ret)))))
theorem it_k38 : FnIs Tryz.prog 38 54 [.tmp 2] t_k38 := ⟨Tryz.f38, _, Tryz.func38, rfl, rfl, rfl, rfl, by kernel_rfl⟩

def zm5 : List SOp := [zO 4 (.alloc 31),zO 5 (.assign (.const (.bool false)))]
instance : Live zm5 := ⟨[0,1]⟩
def zm4 : List SOp := [zO 12 (.build 31 #[]),zO 6 (.alloc 31),⟨none,.store 31 (.tmp 6) (.tmp 12),none⟩]
instance : Live zm4 := ⟨[0,1,4]⟩
def zm3 : List SOp := [zO 7 (.assign (.const (.int .i64 0)))]
instance : Live zm3 := ⟨[0,1,4,6]⟩
def zm2 : List SOp := [zM 13 7,zM 14 1,zO 15 (.call ⟨.builtin .len,#[.tmp 14],#[23]⟩),zO 16 (.binOp .lss 3 (.tmp 13) (.tmp 15) 3)]
instance : Live zm2 := ⟨[0,1,4,6,7]⟩
def zm1 : List SOp := [zM 20 0,zM 21 1,zM 22 7,zI 23 23 21 22,zL 24 3 23,zI 25 77 20 24,zL 26 29 25,zO 27 (.call ⟨.value (.func 13),#[.tmp 26],#[29]⟩),zM 19 27,zX 28 19 0,zX 29 19 1,zO 8 (.alloc 31),⟨none,.store 31 (.tmp 8) (.tmp 28),none⟩,zG 9 29]
instance : Live zm1 := ⟨[0,1,4,6,7]⟩
def zm0 : List SOp := [zM 30 9,zO 31 (.binOp .neq 32 (.tmp 30) (.const (.int .i64 0)) 32)]
instance : Live zm0 := ⟨[0,1,4,6,7,8,9]⟩
def zlz : List SOp := [zL 32 31 6,⟨none,.store 31 (.tmp 4) (.tmp 32),none⟩,zO 5 (.assign (.const (.bool false)))]
instance : Live zlz := ⟨[4,6]⟩
def zly : List SOp := [zL 34 31 6,zL 35 31 8,zO 36 (.call ⟨.value (.func 25),#[.tmp 34,.tmp 35],#[31,31]⟩),zM 33 36,zX 37 33 0,zX 38 33 1,zO 10 (.alloc 31),⟨none,.store 31 (.tmp 10) (.tmp 37),none⟩,zG 11 38]
instance : Live zly := ⟨[0,1,4,6,7,8]⟩
def zlx : List SOp := [zM 39 11,zO 40 (.binOp .neq 32 (.tmp 39) (.const (.int .i64 0)) 32)]
instance : Live zlx := ⟨[0,1,4,6,7,10,11]⟩
def qwr : List SOp := [zL 41 31 6,⟨none,.store 31 (.tmp 4) (.tmp 41),none⟩,zO 5 (.assign (.const (.bool false)))]
instance : Live qwr := ⟨[4,6]⟩
def qwq : List SOp := [zL 42 31 10,⟨none,.store 31 (.tmp 6) (.tmp 42),none⟩]
instance : Live qwq := ⟨[0,1,4,6,7,10]⟩
def qwp : List SOp := [zM 17 7,zO 18 (.binOp .add 3 (.tmp 17) (.const (.int .i64 1)) 3),zG 7 18]
instance : Live qwp := ⟨[0,1,4,6,7]⟩
def qwo : List SOp := [zL 43 31 6,⟨none,.store 31 (.tmp 4) (.tmp 43),none⟩,zO 5 (.assign (.const (.bool true)))]
instance : Live qwo := ⟨[4,6]⟩
def qu8 : SC :=
 (.seq (.seq (.ops false zm2) (.cond (.tmp 16) .skip (.exit 0))) (.seq (.block 1 (.seq (.ops false zm1) (.seq (.seq (.ops false zm0) (.cond (.tmp 31) (.seq (.ops false zlz) .ret) .skip)) (.seq (.ops false zly) (.seq (.seq (.ops false zlx) (.cond (.tmp 40) (.seq (.ops false qwr) .ret) .skip)) (.ops false qwq)))))) (.ops false qwp)))
def t_k39 : SC :=
 (.seq (.ops false zm5) (.seq (.ops false zm4) (.seq (.seq (.ops false zm3) (.block 0 (.loop qu8))) (.seq (.ops false qwo) .ret))))
theorem it_k39 : FnIs Tryz.prog 39 44 [.cell 4 31, .tmp 5] t_k39 := ⟨Tryz.f39, _, Tryz.func39, rfl, rfl, rfl, rfl, by kernel_rfl⟩

def q53 (l : List Fct) : List AVal := l.map q5e
theorem q1t (l : List Fct) : q0k (q53 l) = true := q30 qav
theorem qau (l : List Fct) : (q53 l).length = l.length := by simp [q53]
theorem qqu {l : List Fct} {i : Nat} {f : Fct} (h : l[i]? = some f) : (q53 l)[i]? = some (.agg [.sl 4 (q0a f.adds), .sl 1 (q04 f.gone.vec), .sl 3 (q0c f.gone.cloud), .sl 3 (q08 f.recs)]) := by
 unfold q53
 rw [List.getElem?_map, h]
 rfl
theorem qh5 (l : List Fct) (a : List Ent) (v : List Int) (c : List Sn) (r : List Rec) : q53 l ++ [.agg [.sl 4 (q0a a), .sl 1 (q04 v), .sl 3 (q0c c), .sl 3 (q08 r)]] = q53 (l ++ [⟨a, ⟨v, c⟩, r⟩]) := by simp [q53, q5e]
open Classical in
noncomputable def tog : List Rn → List Fct → List Fct
 | _, [] => []
 | seen, f :: l => if q3j f = 0 then (match f.adds with | [] => f :: tog seen l | e :: _ => if e.dot ∈ seen then tog seen l else f :: tog (seen ++ [e.dot]) l) else tog seen l
theorem qc6 : ∀ {l : List Fct} {seen : List Rn}, ∀ x ∈ tog seen l, q3j x = 0 ∧ (∀ e ∈ x.adds, e.dot ∉ seen) ∧ x ∈ l
 | [], _, x, hx => by simp [tog] at hx
 | f :: l, seen, x, hx => by
  rw [tog] at hx
  split at hx
  ·rename_i he
   split at hx
   ·rename_i ha
    rcases List.mem_cons.1 hx with rfl | hx
    ·exact ⟨he, fun e hm => (by rw [ha] at hm; cases hm), by simp⟩
    ·obtain ⟨h1, h2, h3⟩ := qc6 x hx
     exact ⟨h1, h2, by simp [h3]⟩
   ·rename_i e es ha
    split at hx
    ·obtain ⟨h1, h2, h3⟩ := qc6 x hx
     exact ⟨h1, h2, by simp [h3]⟩
    ·rename_i hn
     rcases List.mem_cons.1 hx with rfl | hx
     ·have h1 := qbs he
      rw [ha] at h1
      have hes : es = [] := by
       cases es with
       | nil => rfl
       | cons y ys => simp at h1
      refine ⟨he, fun y hy => ?_, by simp⟩
      rw [ha, hes, List.mem_singleton] at hy
      rw [hy]
      exact hn
     ·obtain ⟨h1, h2, h3⟩ := qc6 x hx
      exact ⟨h1, fun y hy hm => h2 y hy (List.mem_append.2 (.inl hm)), by simp [h3]⟩
  ·obtain ⟨h1, h2, h3⟩ := qc6 x hx
   exact ⟨h1, h2, by simp [h3]⟩
theorem self_nc {x : Fct} (h : q3j x = 0) : ¬ Clash x.adds x.adds := by
 rintro ⟨a, ha, b, hb, hd, hne⟩
 exact hne (zdc (q5a h).adds ha hb hd)
theorem qk2 : ∀ {l : List Fct} {seen : List Rn}, ∀ x ∈ tog seen l, ∀ y ∈ tog seen l, ¬ Clash x.adds y.adds
 | [], _, x, hx, _, _ => by simp [tog] at hx
 | f :: l, seen, x, hx, y, hy => by
  have hex := (qc6 x hx).1
  rw [tog] at hx hy
  split at hx
  ·rename_i he
   rw [if_pos he] at hy
   split at hx
   ·rename_i ha
    simp only [ha] at hy
    rcases List.mem_cons.1 hx with rfl | hx'
    ·rintro ⟨a, h1, _⟩
     rw [ha] at h1
     cases h1
    ·rcases List.mem_cons.1 hy with rfl | hy'
     ·rintro ⟨a, h1, b, h2, _⟩
      rw [ha] at h2
      cases h2
     ·exact qk2 x hx' y hy'
   ·rename_i e es ha
    simp only [ha] at hy
    split at hx
    ·rename_i hn
     rw [if_pos hn] at hy
     exact qk2 x hx y hy
    ·rename_i hn
     rw [if_neg hn] at hy
     have hone : ∀ z ∈ f.adds, z.dot = e.dot := fun z hz => by
      have h1 := qbs he
      rw [ha] at h1 hz
      cases es with
      | nil => rw [List.mem_singleton.1 hz]
      | cons y ys => simp at h1
     rcases List.mem_cons.1 hx with rfl | hx'
     ·rcases List.mem_cons.1 hy with rfl | hy'
      ·exact self_nc he
      ·rintro ⟨a, h1, b, h2, hd, _⟩
       refine (qc6 y hy').2.1 b h2 ?_
       rw [← hd, hone a h1]
       simp
     ·rcases List.mem_cons.1 hy with rfl | hy'
      ·rintro ⟨a, h1, b, h2, hd, _⟩
       refine (qc6 x hx').2.1 a h1 ?_
       rw [hd, hone b h2]
       simp
      ·exact qk2 x hx' y hy'
  ·rename_i he
   rw [if_neg he] at hy
   exact qk2 x hx y hy
theorem qdo : ∀ (l : List Fct) (seen : List Rn), (tog seen l).Sublist l
 | [], _ => by simp [tog]
 | f :: l, seen => by
  rw [tog]
  split
  ·split
   ·exact (qdo l seen).cons_cons f
   ·split
    ·exact (qdo l seen).cons f
    ·exact (qdo l _).cons_cons f
  ·exact (qdo l seen).cons f
theorem tog_wt (l : List Fct) : wtE (tog [] l) ≤ wtE l := q7l ((qdo l []).map _)
theorem zeb {l : List Fct} {i : Nat} {f : Fct} (h : l[i]? = some f) : wtF f + 1 ≤ wtE l := by
 have h1 := zec (l.take i) (l.drop i)
 rw [List.take_append_drop, q8n h] at h1
 unfold wtE at *
 simp only [List.map_cons, List.sum_cons] at h1
 omega
theorem qro (l : List Fct) : l.length ≤ wtE l := by
 induction l with
 | nil => exact Nat.zero_le _
 | cons m l ih => unfold wtE at *; simp only [List.length_cons, List.map_cons, List.sum_cons]; omega
abbrev qb7 (l : List Rn) : List (AVal × AVal) := qpz id (fun _ => AVal.int .i64 1) l
theorem ev_k38 (l : List Fct) (hw : wtE l ≤ 3000000) : Ev (En Tryz.prog rfl).P 38 [.sl 4 (q53 l)] (.ret (.sl 4 (q53 (tog [] l)))) := by
 refine Ev.of_body it_k38 (by simp) (Run.start ?_)
 unfold t_k38
 have hS := qc8
 have e1 := qau l
 have hll := qro l
 have hmn := fun s => zcp (kd := id) (f := fun _ => AVal.int .i64 1) (fun _ => rfl) s
 (have hF := True.intro; refine q01 (k:=?_); clear hF)
 refine Run.wk (Wk.own_nil 4 52 4 rfl rfl) ?_
 refine Run.while (σ := Nat × List Rn × List Fct) (fun z => ⟨tms [(0, .sl 4 (q53 l)), (3, .mp 6), (4, .os 52 z.2.2.length), (5, .int .i64 (z.1 : Int))], mms [(6, .map (qb7 z.2.1)), (52, .arr z.2.2.length 4 (q53 z.2.2))]⟩)
  (fun z => z.1 ≤ l.length ∧ z.2.2 ++ tog z.2.1 (l.drop z.1) = tog [] l ∧ z.2.2.length ≤ z.1) (fun z => l.length - z.1) (0, [], []) (have hW := (aI @q1t @hmn); zew) ⟨Nat.zero_le _, rfl, Nat.zero_le _⟩ ?_
 rintro ⟨i, seen, out⟩ ⟨hi, hI, ho⟩
 simp only at hi hI ho
 unfold qu9
 by_cases hlt : i < l.length
 case' neg =>
  rw [List.drop_eq_nil_of_le (by omega)] at hI
  simp only [tog, List.append_nil] at hI
  subst hI
  (have hF := @e1; refine q01 (k:=?_); clear hF)
  exact Fin.tmp' (x := .sl 4 (q53 (tog [] l))) (by simp [fz, fzc, q55, upd, tms, mms]) (q1t _)
 obtain ⟨f, hf⟩ : ∃ f, l[i]? = some f := ⟨l[i], by simp [hlt]⟩
 have g1 := qqu hf
 have hwf := zeb hf
 have c1 := ev_k35 f (by omega)
 rw [q8n hf] at hI
 have e2 := qau out
 by_cases h0 : q3j f = 0
 case' neg =>
  rw [tog, if_neg h0] at hI
  generalize q3j f = er at *
  unfold q5e at c1
  (have hF := (aI @e1 @g1); refine q01 (k:=?_); clear hF)
  refine q00 [_] (he := c1) (k:=?_)
  (have hF := (aI @e1 (aI @g1 @h0)); refine q01 (k:=?_); clear hF)
  (refine Fin.nextW ((i + 1, seen, out)) ?_ (have hW := (aI @q1t @hmn); zew); (try dsimp only))
  exact ⟨⟨hlt, hI, by omega⟩, by omega⟩
 rw [tog, if_pos h0] at hI
 rw [h0] at c1
 obtain ⟨fa, ⟨fv, fc⟩, fr⟩ := f
 unfold q5e at c1
 cases fa with
 | nil =>
  simp only at hI
  have hI2 : (out ++ [⟨[], ⟨fv, fc⟩, fr⟩]) ++ tog seen (l.drop (i + 1)) = tog [] l := by rw [List.append_assoc]; exact hI
  have l0 : (q0a []).length = 0 := rfl
  (have hF := (aI @e1 @g1); refine q01 (k:=?_); clear hF)
  refine q00 [_] (he := c1) (k:=?_)
  (have hF := (aI (aI @e1 @g1) (aI @e2 @l0)); refine q01 (k:=?_); clear hF)
  (refine Fin.nextW ((i + 1, seen, out ++ [⟨[], ⟨fv, fc⟩, fr⟩])) ?_ (have hW := (aI @q1t (aI @hmn @qh5)); zew); (try dsimp only))
  exact ⟨⟨hlt, hI2, by simp; omega⟩, by omega⟩
 | cons e es =>
  simp only at hI
  have l1 : (q0a (e :: es)).length = es.length + 1 := by rw [q0o]; rfl
  have hes : es.length ≤ 3000000 := by
   have := hwf
   unfold wtF at this
   simp at this
   omega
  have g3 := q16 (l := e :: es) (i := 0) (e := e) rfl
  have hfd := qq0 id (fun _ => AVal.int .i64 1) e.dot seen 0
  by_cases hs : e.dot ∈ seen
  ·rw [if_pos hs] at hI
   cases hm : mdot id e.dot seen 0 with
   | none => exact absurd rfl (zb2 hm e.dot hs)
   | some p =>
    rw [hm] at hfd
    replace hfd : q9p TE0 EQ0 41 (.agg [.int .i64 e.rep, .int .i64 e.num]) (qb7 seen) 0 = some (some (p.1, .int .i64 1)) := hfd
    (have hF := (aI @e1 @g1); refine q01 (k:=?_); clear hF)
    refine q00 [_] (he := c1) (k:=?_)
    (have hF := (aI (aI @e1 (aI @g1 @e2)) (aI @l1 (aI @g3 @hfd))); refine q01 (k:=?_); clear hF)
    (refine Fin.nextW ((i + 1, seen, out)) ?_ (have hW := (aI @q1t @hmn); zew); (try dsimp only))
    exact ⟨⟨hlt, hI, by omega⟩, by omega⟩
  ·rw [if_neg hs] at hI
   rw [qq3 (kd := id) (d := e.dot) (fun x hx h => hs (by
    have h' : x = e.dot := h
    rw [← h']
    exact hx))] at hfd
   replace hfd : q9p TE0 EQ0 41 (.agg [.int .i64 e.rep, .int .i64 e.num]) (qb7 seen) 0 = some none := hfd
   have hI2 : (out ++ [⟨e :: es, ⟨fv, fc⟩, fr⟩]) ++ tog (seen ++ [e.dot]) (l.drop (i + 1)) = tog [] l := by rw [List.append_assoc]; exact hI
   have hsn : qb7 seen ++ [(.agg [.int .i64 e.rep, .int .i64 e.num], .int .i64 1)] = qb7 (seen ++ [e.dot]) := by
    unfold qb7 qpz
    rw [List.map_append]
    rfl
   (have hF := (aI @e1 @g1); refine q01 (k:=?_); clear hF)
   refine q00 [_] (he := c1) (k:=?_)
   (have hF := (aI (aI @e1 (aI @g1 @e2)) (aI @l1 (aI @g3 @hfd))); refine q01 (k:=?_); clear hF)
   (refine Fin.nextW ((i + 1, seen ++ [e.dot], out ++ [⟨e :: es, ⟨fv, fc⟩, fr⟩])) ?_ (have hW := (aI (aI @q1t @hmn) (aI @qh5 @hsn)); zew); (try dsimp only))
   exact ⟨⟨hlt, hI2, by simp; omega⟩, by omega⟩
def q4k (l : List Fct) : Fct := l.foldl qcw noF
theorem qgv {l : List Fct} {i : Nat} {f : Fct} (h : l[i]? = some f) : q4k (l.take (i + 1)) = qcw (q4k (l.take i)) f := by
 unfold q4k
 rw [List.take_add_one, h]
 simp
theorem qiu {E l : List Fct} (hE : ∀ x ∈ E, q3j x = 0) (hc : ∀ x ∈ E, ∀ y ∈ E, ¬ Clash x.adds y.adds) (hl : ∀ x ∈ l, x ∈ E) : ∀ n, Uni (l.take n) (q4k (l.take n))
 | 0 => Uni.nil
 | n + 1 => by
  have ih := qiu hE hc hl n
  cases hf : l[n]? with
  | none =>
   have : l.take (n + 1) = l.take n := by rw [List.take_add_one, hf]; simp
   rw [this]
   exact ih
  | some f =>
   have hfE := hl f (List.mem_of_getElem? hf)
   have hff := q5a (hE f hfE)
   have hn := ih.clash (Uni.one hff) (fun x hx y hy => by
    rw [List.mem_singleton.1 hy]
    exact hc x (hl x (List.mem_of_mem_take hx)) f hfE)
   obtain ⟨L, hL⟩ := qar ih.form hff hn
   rw [qgv hf, qrq ih.form hff hL, List.take_add_one, hf]
   exact ih.union (Uni.one hff) hL
def q4e (E : List Fct) (o : List Int) : List Fct := o.map fun i => E.getD i.toNat noF
theorem zov {E : List Fct} {o : List Int} {j : Nat} {i : Int} (h : o[j]? = some i) (h0 : 0 ≤ i) (hi : i < E.length) : ∃ f, E[i.toNat]? = some f ∧ (q4e E o)[j]? = some f := by
 have hlt : i.toNat < E.length := by omega
 refine ⟨E[i.toNat], by simp [hlt], ?_⟩
 unfold q4e
 rw [List.getElem?_map, h]
 simp [hlt]
theorem q2m {E : List Fct} {o : List Int} (ho : ∀ i ∈ o, 0 ≤ i ∧ i < E.length) : ∀ x ∈ q4e E o, x ∈ E := by
 intro x hx
 obtain ⟨i, hi, rfl⟩ := List.mem_map.1 hx
 have := ho i hi
 have hlt : i.toNat < E.length := by omega
 simp [hlt]
theorem zbl (E : List Fct) (o : List Int) (hE : ∀ x ∈ E, q3j x = 0) (hc : ∀ x ∈ E, ∀ y ∈ E, ¬ Clash x.adds y.adds) (ho : ∀ i ∈ o, 0 ≤ i ∧ i < E.length) (hw : wtE E ≤ 1400000) (hol : o.length ≤ 1000000000) :
 Ev (En Tryz.prog rfl).P 39 [.sl 4 (q53 E), .sl 1 (q04 o)] (.ret (.tup [q40 (stF (q4k (q4e E o))), .bool true])) := by
 refine Ev.of_body it_k39 (by simp) (Run.start ?_)
 unfold t_k39
 have hS := qc8
 have e1 := qau E
 have e2 := q0e o
 have hm := q2m ho
 have hu := qiu hE hc hm
 have hpl : (q4e E o).length = o.length := by simp [q4e]
 have hEl := qro E
 (have hF := True.intro; refine q01 (k:=?_); clear hF)
 refine Run.wk (Wk.cells_nil (k := 6) (ds := [.sl 4 (q0a []), .sl 1 (q04 []), .sl 3 (q0c []), .sl 3 (q08 [])]) rfl ⟨.inr ⟨rfl, 4, rfl⟩, .inr ⟨rfl, 1, rfl⟩, .inr ⟨rfl, 3, rfl⟩, .inr ⟨rfl, 3, rfl⟩, trivial⟩) ?_
 have hno : stF (q4k ((q4e E o).take 0)) = noS := stF_no
 refine Run.while (σ := Nat × Swt) (fun z => ⟨tms [(0, .sl 4 (q53 E)), (1, .sl 1 (q04 o)), (4, .ptr 4 0), (6, .ptr 6 0), (7, .int .i64 (z.1 : Int))], mms [(4, .cells [.nil, .nil, .nil, .nil]), (6, .cells [.sl 4 (q0a z.2.live), .sl 1 (q04 z.2.past.vec), .sl 3 (q0c z.2.past.cloud), .sl 3 (q08 z.2.defer)])]⟩)
  (fun z => z.1 ≤ o.length ∧ z.2 = stF (q4k ((q4e E o).take z.1))) (fun z => o.length - z.1) (0, noS) (have hW := (aI (aI @q1t @q03) (aI @q05 (aI @q02 @q09))); q0g) ⟨Nat.zero_le _, hno.symm⟩ ?_
 rintro ⟨j, s⟩ ⟨hj, hsI⟩
 simp only at hj hsI
 unfold qu8
 have hcs := q81 s.live s.past.vec s.past.cloud s.defer
 by_cases hlt : j < o.length
 case' neg =>
  rw [List.take_of_length_le (by omega)] at hsI
  rw [← hsI]
  (have hF := (aI @e1 (aI @e2 @hcs)); refine q01 (k:=?_); clear hF)
  exact Fin.all (xs := [q40 s, .bool true]) (by with_unfolding_all rfl) (by simp [q0k, q3f, AVal.stb]) rfl
 obtain ⟨i, hi⟩ : ∃ i, o[j]? = some i := ⟨o[j], by simp [hlt]⟩
 obtain ⟨hi0, hi1⟩ := ho i (List.mem_of_getElem? hi)
 obtain ⟨f, hf, hpf⟩ := zov hi hi0 hi1
 have g1 := q0r hi
 have g2 := qqu hf
 have hfE : f ∈ E := List.mem_of_getElem? hf
 have he := hE f hfE
 have hwf := zeb hf
 have c1 := ev_k13 f (by omega)
 rw [he] at c1
 have o1 : Of E s (q4k ((q4e E o).take j)) := ⟨_, fun x hx => hm x (List.mem_of_mem_take hx), hu j, hsI⟩
 have o2 : Of E (ze9 f) f := Of.one he hfE
 obtain ⟨L, hL⟩ := qar (hu j).form (q5a he) ((hu j).clash (Uni.one (q5a he)) (fun x hx y hy => by
  rw [List.mem_singleton.1 hy]
  exact hc x (hm x (List.mem_of_mem_take hx)) f hfE))
 obtain ⟨q1, q2, q3⟩ := Of.join o1 o2 hL
 have w1 := o1.wts hE
 have w2 := o2.wts hE
 have c2 := qgz s (ze9 f) (by omega) (by omega)
 rw [q1, q2] at c2
 have hsn := qgv hpf
 rw [← hsn] at c2
 generalize ze9 f = t at *
 generalize hud : stF (q4k ((q4e E o).take (j + 1))) = u at *
 have hct := q81 t.live t.past.vec t.past.cloud t.defer
 have hcu := q81 u.live u.past.vec u.past.cloud u.defer
 unfold q5e q40 at c1
 unfold q40 at c2
 (have hF := (aI (aI @e1 (aI @e2 @hcs)) (aI (aI @g1 @g2) (aI @hi0 @hi1))); refine q01 (k:=?_); clear hF)
 refine q00 [_] (he := c1) (k:=?_)
 (have hF := (aI (aI @e1 @e2) (aI @hcs @hct)); refine q01 (k:=?_); clear hF)
 refine q00 [_, _] (he := c2) (k:=?_)
 (have hF := (aI (aI @e1 @e2) (aI @hcs (aI @hct @hcu))); refine q01 (k:=?_); clear hF)
 (refine Fin.nextW ((j + 1, u)) ?_ (have hW := (aI (aI @q1t @q03) (aI @q05 (aI @q02 @q09))); q0g); (try dsimp only))
 exact ⟨⟨hlt, hud.symm⟩, by omega⟩

def zoi : List SOp := [zO 4 (.assign (.const (.bool false)))]
instance : Live zoi := ⟨[0,1]⟩
def zoh : List SOp := [zO 24 (.call ⟨.value (.func 24),#[],#[]⟩),zO 25 (.unOp .not 4 (.tmp 24))]
instance : Live zoh := ⟨[0,1]⟩
def zog : List SOp := [zO 4 (.assign (.const (.bool false)))]
instance : Live zog := ⟨[]⟩
def zof : List SOp := [zM 26 0,zO 27 (.call ⟨.value (.func 38),#[.tmp 26],#[77]⟩),zG 5 27]
instance : Live zof := ⟨[0,1]⟩
def zoe : List SOp := [zM 28 5,zO 29 (.call ⟨.builtin .len,#[.tmp 28],#[77]⟩),zG 6 29]
instance : Live zoe := ⟨[1,5]⟩
def zod : List SOp := [zO 7 (.assign (.const (.slice none 0 0))),zO 8 (.assign (.const (.slice none 0 0))),zO 9 (.assign (.const (.slice none 0 0))),zO 10 (.assign (.const (.slice none 0 0)))]
instance : Live zod := ⟨[1,5,6]⟩
def zoc : List SOp := [zO 11 (.assign (.const (.int .i64 0)))]
instance : Live zoc := ⟨[1,5,6,7,8,9,10]⟩
def zob : List SOp := [zM 30 11,zM 31 6,zO 32 (.binOp .lss 3 (.tmp 30) (.tmp 31) 3)]
instance : Live zob := ⟨[1,5,6,7,8,9,10,11]⟩
def zoa : List SOp := [zM 35 7,zM 36 11,zO 37 (.buildSlice 23 1 #[(0,.tmp 36)]),zO 38 (.call ⟨.builtin .append,#[.tmp 35,.tmp 37],#[23,23]⟩),zG 7 38]
instance : Live zoa := ⟨[1,5,6,7,8,9,10,11]⟩
def z6z : List SOp := [zM 39 11,zM 40 6,zO 41 (.binOp .quo 3 (.tmp 40) (.const (.int .i64 2)) 3),zO 42 (.binOp .lss 3 (.tmp 39) (.tmp 41) 3)]
instance : Live z6z := ⟨[1,5,6,7,8,9,10,11]⟩
def z6y : List SOp := [zM 43 9,zM 44 11,zO 45 (.buildSlice 23 1 #[(0,.tmp 44)]),zO 46 (.call ⟨.builtin .append,#[.tmp 43,.tmp 45],#[23,23]⟩),zG 9 46]
instance : Live z6y := ⟨[1,5,6,7,8,9,10,11]⟩
def z6x : List SOp := [zM 47 10,zM 48 11,zO 49 (.buildSlice 23 1 #[(0,.tmp 48)]),zO 50 (.call ⟨.builtin .append,#[.tmp 47,.tmp 49],#[23,23]⟩),zG 10 50]
instance : Live z6x := ⟨[1,5,6,7,8,9,10,11]⟩
def z6w : List SOp := [zM 33 11,zO 34 (.binOp .add 3 (.tmp 33) (.const (.int .i64 1)) 3),zG 11 34]
instance : Live z6w := ⟨[1,5,6,7,8,9,10,11]⟩
def z6v : List SOp := [zO 12 (.assign (.const (.int .i64 0)))]
instance : Live z6v := ⟨[1,5,6,7,8,9,10]⟩
def z6u : List SOp := [zM 51 12,zM 52 1,zO 53 (.call ⟨.builtin .len,#[.tmp 52],#[23]⟩),zO 54 (.binOp .lss 3 (.tmp 51) (.tmp 53) 3),zM 55 54,⟨some 56,.move (.tmp 6),some ((some 55),true)⟩,⟨some 57,.binOp .gtr 3 (.tmp 56) (.const (.int .i64 0)) 3,some ((some 55),true)⟩,zO 58 (.pick (.tmp 55) (.tmp 57) (.const (.bool false)))]
instance : Live z6u := ⟨[1,5,6,7,8,9,10,12]⟩
def z6t : List SOp := [zM 61 8,zM 62 1,zM 63 12,zI 64 23 62 63,zL 65 3 64,zO 66 (.convert 3 79 (.tmp 65)),zM 67 6,zO 68 (.convert 3 79 (.tmp 67)),zO 69 (.binOp .rem 79 (.tmp 66) (.tmp 68) 79),zO 70 (.convert 79 3 (.tmp 69)),zO 71 (.buildSlice 23 1 #[(0,.tmp 70)]),zO 72 (.call ⟨.builtin .append,#[.tmp 61,.tmp 71],#[23,23]⟩),zG 8 72]
instance : Live z6t := ⟨[1,5,6,7,8,9,10,12]⟩
def z6s : List SOp := [zM 59 12,zO 60 (.binOp .add 3 (.tmp 59) (.const (.int .i64 1)) 3),zG 12 60]
instance : Live z6s := ⟨[1,5,6,7,8,9,10,12]⟩
def z6r : List SOp := [zM 73 6,zO 74 (.binOp .sub 3 (.tmp 73) (.const (.int .i64 1)) 3),zG 13 74]
instance : Live z6r := ⟨[5,6,7,8,9,10]⟩
def z6q : List SOp := [zM 75 13,zO 76 (.binOp .geq 3 (.tmp 75) (.const (.int .i64 0)) 3)]
instance : Live z6q := ⟨[5,7,8,9,10,13]⟩
def z6p : List SOp := [zM 79 8,zM 80 13,zO 81 (.buildSlice 23 1 #[(0,.tmp 80)]),zO 82 (.call ⟨.builtin .append,#[.tmp 79,.tmp 81],#[23,23]⟩),zG 8 82]
instance : Live z6p := ⟨[5,7,8,9,10,13]⟩
def z6o : List SOp := [zM 77 13,zO 78 (.binOp .sub 3 (.tmp 77) (.const (.int .i64 1)) 3),zG 13 78]
instance : Live z6o := ⟨[5,7,8,9,10,13]⟩
def z6n : List SOp := [zM 84 5,zM 85 7,zO 86 (.call ⟨.value (.func 39),#[.tmp 84,.tmp 85],#[77,23]⟩),zM 83 86,zX 87 83 0,zX 88 83 1,zO 14 (.alloc 31),⟨none,.store 31 (.tmp 14) (.tmp 87),none⟩,zG 15 88]
instance : Live z6n := ⟨[5,7,8,9,10]⟩
def z6m : List SOp := [zM 90 5,zM 91 8,zO 92 (.call ⟨.value (.func 39),#[.tmp 90,.tmp 91],#[77,23]⟩),zM 89 92,zX 93 89 0,zX 94 89 1,zO 16 (.alloc 31),⟨none,.store 31 (.tmp 16) (.tmp 93),none⟩,zG 17 94]
instance : Live z6m := ⟨[5,8,9,10,14,15]⟩
def z6l : List SOp := [zM 96 5,zM 97 9,zO 98 (.call ⟨.value (.func 39),#[.tmp 96,.tmp 97],#[77,23]⟩),zM 95 98,zX 99 95 0,zX 100 95 1,zO 18 (.alloc 31),⟨none,.store 31 (.tmp 18) (.tmp 99),none⟩,zG 19 100]
instance : Live z6l := ⟨[5,9,10,14,15,16,17]⟩
def z6k : List SOp := [zM 102 5,zM 103 10,zO 104 (.call ⟨.value (.func 39),#[.tmp 102,.tmp 103],#[77,23]⟩),zM 101 104,zX 105 101 0,zX 106 101 1,zO 20 (.alloc 31),⟨none,.store 31 (.tmp 20) (.tmp 105),none⟩,zG 21 106]
instance : Live z6k := ⟨[5,10,14,15,16,17,18,19]⟩
def z6j : List SOp := [zM 107 15,zO 108 (.unOp .not 4 (.tmp 107)),zM 109 108,⟨some 110,.move (.tmp 17),some ((some 109),false)⟩,⟨some 111,.unOp .not 4 (.tmp 110),some ((some 109),false)⟩,zO 112 (.pick (.tmp 109) (.const (.bool true)) (.tmp 111)),zM 113 112,⟨some 114,.move (.tmp 19),some ((some 113),false)⟩,⟨some 115,.unOp .not 4 (.tmp 114),some ((some 113),false)⟩,zO 116 (.pick (.tmp 113) (.const (.bool true)) (.tmp 115)),zM 117 116,⟨some 118,.move (.tmp 21),some ((some 117),false)⟩,⟨some 119,.unOp .not 4 (.tmp 118),some ((some 117),false)⟩,zO 120 (.pick (.tmp 117) (.const (.bool true)) (.tmp 119)),zM 121 120,⟨some 122,.load 31 (.tmp 14),some ((some 121),false)⟩,⟨some 123,.load 31 (.tmp 16),some ((some 121),false)⟩,⟨some 124,.call ⟨.value (.func 15),#[.tmp 122,.tmp 123],#[31,31]⟩,some ((some 121),false)⟩,⟨some 125,.unOp .not 4 (.tmp 124),some ((some 121),false)⟩,zO 126 (.pick (.tmp 121) (.const (.bool true)) (.tmp 125))]
instance : Live z6j := ⟨[14,15,16,17,18,19,20,21]⟩
def z6i : List SOp := [zO 4 (.assign (.const (.bool false)))]
instance : Live z6i := ⟨[]⟩
def z6h : List SOp := [zL 128 31 20,zL 129 31 18,zO 130 (.call ⟨.value (.func 25),#[.tmp 128,.tmp 129],#[31,31]⟩),zM 127 130,zX 131 127 0,zX 132 127 1,zO 22 (.alloc 31),⟨none,.store 31 (.tmp 22) (.tmp 131),none⟩,zG 23 132]
instance : Live z6h := ⟨[14,18,20]⟩
def z6g : List SOp := [zM 133 23,zO 134 (.binOp .eql 32 (.tmp 133) (.const (.int .i64 0)) 32),zM 135 134,⟨some 136,.load 31 (.tmp 22),some ((some 135),true)⟩,⟨some 137,.load 31 (.tmp 14),some ((some 135),true)⟩,⟨some 138,.call ⟨.value (.func 15),#[.tmp 136,.tmp 137],#[31,31]⟩,some ((some 135),true)⟩,zO 139 (.pick (.tmp 135) (.tmp 138) (.const (.bool false))),zG 4 139]
instance : Live z6g := ⟨[14,22,23]⟩
def qug : SC :=
 (.seq (.seq (.ops false zob) (.cond (.tmp 32) .skip (.exit 0))) (.seq (.block 1 (.seq (.ops false zoa) (.seq (.ops false z6z) (.cond (.tmp 42) (.ops false z6y) (.ops false z6x))))) (.ops false z6w)))
def quf : SC :=
 (.seq (.seq (.ops false z6u) (.cond (.tmp 58) .skip (.exit 2))) (.seq (.block 3 (.ops false z6t)) (.ops false z6s)))
def que : SC :=
 (.seq (.seq (.ops false z6q) (.cond (.tmp 76) .skip (.exit 4))) (.seq (.block 5 (.ops false z6p)) (.ops false z6o)))
def t_k11 : SC :=
 (.seq (.ops false zoi) (.seq (.seq (.ops false zoh) (.cond (.tmp 25) (.seq (.ops false zog) .ret) .skip)) (.seq (.ops false zof) (.seq (.ops false zoe) (.seq (.ops false zod) (.seq (.seq (.ops false zoc) (.block 0 (.loop qug))) (.seq (.seq (.ops false z6v) (.block 2 (.loop quf))) (.seq (.seq (.ops false z6r) (.block 4 (.loop que))) (.seq (.ops false z6n) (.seq (.ops false z6m) (.seq (.ops false z6l) (.seq (.ops false z6k) (.seq (.seq (.ops false z6j) (.cond (.tmp 126) (.seq (.ops false z6i) .ret) .skip)) (.seq (.ops false z6h) (.seq (.ops false z6g) .ret)))))))))))))))
theorem it_k11 : FnIs Tryz.prog 11 140 [.tmp 4] t_k11 := ⟨Tryz.f11, _, Tryz.func11, rfl, rfl, rfl, rfl, by kernel_rfl⟩

theorem qej {E : List Fct} {o : List Int} (ho : ∀ i ∈ o, 0 ≤ i ∧ i < E.length) (ha : ∀ i : Int, 0 ≤ i → i < E.length → i ∈ o) : ∀ x, x ∈ q4e E o ↔ x ∈ E := by
 intro x
 refine ⟨q2m ho x, fun hx => ?_⟩
 obtain ⟨i, hi⟩ := List.mem_iff_getElem?.1 hx
 have hlt : i < E.length := (List.getElem?_eq_some_iff.1 hi).1
 refine List.mem_map.2 ⟨(i : Int), ha i (by omega) (by omega), ?_⟩
 simp [hi]
theorem qan {E l : List Fct} (hE : ∀ x ∈ E, q3j x = 0) (hc : ∀ x ∈ E, ∀ y ∈ E, ¬ Clash x.adds y.adds) (hl : ∀ x ∈ l, x ∈ E) : Uni l (q4k l) := by
 have := qiu hE hc hl l.length
 rwa [List.take_length] at this
theorem zow (x : Int) {n : Nat} (hn : 0 < n) (hn2 : n ≤ 1400000) : IntKind.u64.wrap (n : Int) = n ∧ ∃ r : Nat, r < n ∧ IntKind.i64.wrap ((IntKind.u64.wrap x).tmod (n : Int)) = (r : Int) := by
 have hw : ∀ y : Int, IntKind.u64.wrap y = y % 18446744073709551616 := fun y => rfl
 refine ⟨by rw [hw]; omega, ?_⟩
 have h0 : 0 ≤ IntKind.u64.wrap x := by rw [hw]; omega
 generalize IntKind.u64.wrap x = y at *
 have h1 : 0 ≤ y.tmod n := Int.tmod_nonneg _ h0
 have h2 : y.tmod n < n := Int.tmod_lt_of_pos _ (by omega)
 refine ⟨(y.tmod n).toNat, by omega, ?_⟩
 rw [q2d (by omega)]
 omega
theorem mem_snoc {l : List Int} {i : Nat} (h : ∀ x, x ∈ l ↔ 0 ≤ x ∧ x < (i : Int)) : ∀ x, x ∈ l ++ [(i : Int)] ↔ 0 ≤ x ∧ x < ((i + 1 : Nat) : Int) := fun x => by
 rw [List.mem_append, List.mem_singleton, h x]
 omega
theorem ev_k11 (l : List Fct) (pk : List Int) (hw : wtE l ≤ 1400000) (hpl : pk.length ≤ 1400000) : Ev (En Tryz.prog rfl).P 11 [.sl 4 (q53 l), .sl 1 (q04 pk)] (.ret (.bool true)) := by
 refine Ev.of_body it_k11 (by simp) (Run.start ?_)
 unfold t_k11
 have hS := aI qc8 q1t
 have c0 := ev_k38 l (by omega)
 have hE : ∀ x ∈ tog [] l, q3j x = 0 := fun x hx => (qc6 x hx).1
 have hc : ∀ x ∈ tog [] l, ∀ y ∈ tog [] l, ¬ Clash x.adds y.adds := qk2
 have hwE : wtE (tog [] l) ≤ 1400000 := Nat.le_trans (tog_wt l) hw
 generalize tog [] l = E at *
 have hn := qro E
 have e1 := qau E
 have e2 := q0e pk
 (have hF := True.intro; refine q01 (k:=?_); clear hF)
 refine q00 [] (he := ev_k24) (k:=?_)
 (have hF := True.intro; refine q01 (k:=?_); clear hF)
 refine q00 [_] (he := c0) (k:=?_)
 (have hF := @e1; refine q01 (k:=?_); clear hF)
 refine Run.wk (Wk.trans (Wk.own_nil 7 38 1 rfl rfl) (Wk.trans (Wk.own_nil 8 72 1 rfl rfl) (Wk.trans (Wk.own_nil 9 46 1 rfl rfl) (Wk.own_nil 10 50 1 rfl rfl)))) ?_
 refine Run.while (σ := Nat × List Int × List Int × List Int) (fun z => ⟨tms [(1, .sl 1 (q04 pk)), (5, .sl 4 (q53 E)), (6, .int .i64 (E.length : Int)), (7, .os 38 z.2.1.length), (8, .os 72 0), (9, .os 46 z.2.2.1.length), (10, .os 50 z.2.2.2.length), (11, .int .i64 (z.1 : Int))],
  mms [(38, .arr z.2.1.length 1 (q04 z.2.1)), (46, .arr z.2.2.1.length 1 (q04 z.2.2.1)), (50, .arr z.2.2.2.length 1 (q04 z.2.2.2)), (72, .arr 0 1 [])]⟩)
  (fun z => z.1 ≤ E.length ∧ (∀ x, x ∈ z.2.1 ↔ 0 ≤ x ∧ x < (z.1 : Int)) ∧ (∀ x, x ∈ z.2.2.1 ∨ x ∈ z.2.2.2 ↔ 0 ≤ x ∧ x < (z.1 : Int)) ∧ z.2.1.length ≤ z.1 ∧ z.2.2.1.length ≤ z.1 ∧ z.2.2.2.length ≤ z.1) (fun z => E.length - z.1) (0, [], [], []) (have hW := (aI @q1t @q03); q0g)
  ⟨Nat.zero_le _, fun x => ⟨fun h => (by cases h), fun h => (by simp only [] at h; omega)⟩, fun x => ⟨fun h => (by rcases h with h | h <;> cases h), fun h => (by simp only [] at h; omega)⟩, Nat.zero_le _, Nat.zero_le _, Nat.zero_le _⟩ ?_
 ·rintro ⟨i, up, lo, hg⟩ ⟨hi, hu, hlh, m1, m2, m3⟩
  simp only at hi hu hlh m1 m2 m3
  unfold qug
  by_cases hlt : i < E.length
  ·have u1 := q0e up
   have u2 := q0e lo
   have u3 := q0e hg
   have hu' := mem_snoc hu
   by_cases hh : i < E.length / 2
   ·have hlh' : ∀ x, x ∈ lo ++ [(i : Int)] ∨ x ∈ hg ↔ 0 ≤ x ∧ x < ((i + 1 : Nat) : Int) := fun x => by
     rw [List.mem_append, List.mem_singleton, or_right_comm, hlh x]
     omega
    (have hF := (aI @u1 (aI @u2 @u3)); refine q01 (k:=?_); clear hF)
    (refine Fin.nextW ((i + 1, up ++ [(i : Int)], lo ++ [(i : Int)], hg)) ?_ (have hW := (aI @q1t (aI @q03 @q26)); q0g); (try dsimp only))
    exact ⟨⟨hlt, hu', hlh', by simp; omega, by simp; omega, by omega⟩, by omega⟩
   ·have hlh' : ∀ x, x ∈ lo ∨ x ∈ hg ++ [(i : Int)] ↔ 0 ≤ x ∧ x < ((i + 1 : Nat) : Int) := fun x => by
     rw [List.mem_append, List.mem_singleton, ← or_assoc, hlh x]
     omega
    (have hF := (aI @u1 (aI @u2 @u3)); refine q01 (k:=?_); clear hF)
    (refine Fin.nextW ((i + 1, up ++ [(i : Int)], lo, hg ++ [(i : Int)])) ?_ (have hW := (aI @q1t (aI @q03 @q26)); q0g); (try dsimp only))
    exact ⟨⟨hlt, hu', hlh', by simp; omega, by omega, by simp; omega⟩, by omega⟩
  ·have hin : i = E.length := by omega
   rw [hin] at hu hlh m1 m2 m3
   (have hF := @e1; refine q01 (k:=?_); clear hF)
   refine Run.while (σ := Nat × List Int) (fun z => ⟨tms [(1, .sl 1 (q04 pk)), (5, .sl 4 (q53 E)), (6, .int .i64 (E.length : Int)), (7, .os 38 up.length), (8, .os 72 z.2.length), (9, .os 46 lo.length), (10, .os 50 hg.length), (12, .int .i64 (z.1 : Int))],
    mms [(38, .arr up.length 1 (q04 up)), (46, .arr lo.length 1 (q04 lo)), (50, .arr hg.length 1 (q04 hg)), (72, .arr z.2.length 1 (q04 z.2))]⟩)
    (fun z => z.1 ≤ pk.length ∧ (∀ x ∈ z.2, 0 ≤ x ∧ x < (E.length : Int)) ∧ z.2.length ≤ z.1) (fun z => pk.length - z.1) (0, []) (have hW := (aI @q1t @q03); q0g) ⟨Nat.zero_le _, fun x hx => (by cases hx), Nat.zero_le _⟩ ?_
   rintro ⟨j, ot⟩ ⟨hj, hot, mo⟩
   simp only at hj hot mo
   unfold quf
   by_cases hjl : j < pk.length ∧ 0 < E.length
   ·obtain ⟨hjl, hn0⟩ := hjl
    obtain ⟨x, hx⟩ : ∃ x, pk[j]? = some x := ⟨pk[j], by simp [hjl]⟩
    have g1 := q0r hx
    have u4 := q0e ot
    obtain ⟨p1, r, hr, p2⟩ := zow x hn0 (by omega)
    have p3 : ¬ (E.length : Int) = 0 := by omega
    have hot' : ∀ x ∈ ot ++ [(r : Int)], 0 ≤ x ∧ x < (E.length : Int) := fun x hx => by
     rcases List.mem_append.1 hx with hx | hx
     ·exact hot x hx
     ·rw [List.mem_singleton.1 hx]; omega
    (have hF := (aI (aI @e2 (aI @g1 @u4)) (aI (aI @p1 @p2) (aI @p3 @hn0))); refine q01 (k:=?_); clear hF)
    (refine Fin.nextW ((j + 1, ot ++ [(r : Int)])) ?_ (have hW := (aI @q1t (aI @q03 @q26)); q0g); (try dsimp only))
    exact ⟨⟨hjl, hot', by simp; omega⟩, by omega⟩
   ·by_cases hjl2 : j < pk.length
    case' pos =>
     have hz : ¬ 0 < E.length := fun h => hjl ⟨hjl2, h⟩
     (have hF := (aI @e2 @hz); refine q01 (k:=?_); clear hF)
    case' neg =>
     (have hF := @e2; refine q01 (k:=?_); clear hF)
    all_goals
     refine Run.while (σ := Int × List Int) (fun z => ⟨tms [(5, .sl 4 (q53 E)), (7, .os 38 up.length), (8, .os 72 z.2.length), (9, .os 46 lo.length), (10, .os 50 hg.length), (13, .int .i64 z.1)],
      mms [(38, .arr up.length 1 (q04 up)), (46, .arr lo.length 1 (q04 lo)), (50, .arr hg.length 1 (q04 hg)), (72, .arr z.2.length 1 (q04 z.2))]⟩)
      (fun z => (-1 ≤ z.1 ∧ z.1 < (E.length : Int)) ∧ (∀ x ∈ z.2, 0 ≤ x ∧ x < (E.length : Int)) ∧ (∀ x, z.1 < x → x < (E.length : Int) → x ∈ z.2) ∧ (z.2.length : Int) + z.1 ≤ 2800000) (fun z => (z.1 + 1).toNat) ((E.length : Int) - 1, ot) (have hW := (aI @q1t @q03); q0g)
      ⟨by simp only []; omega, hot, fun x h1 h2 => by simp only [] at h1; omega, by simp only []; omega⟩ ?_
     rintro ⟨i2, ot2⟩ ⟨hi2, hot2, hcov, mo2⟩
     simp only at hi2 hot2 hcov mo2
     unfold que
     by_cases hge : 0 ≤ i2
     ·have u5 := q0e ot2
      have hot3 : ∀ x ∈ ot2 ++ [i2], 0 ≤ x ∧ x < (E.length : Int) := fun x hx => by
       rcases List.mem_append.1 hx with hx | hx
       ·exact hot2 x hx
       ·rw [List.mem_singleton.1 hx]; omega
      have hcov3 : ∀ x, i2 - 1 < x → x < (E.length : Int) → x ∈ ot2 ++ [i2] := fun x h1 h2 => by
       by_cases hx : x = i2
       ·subst hx; simp
       ·exact List.mem_append.2 (.inl (hcov x (by omega) h2))
      have hwr : IntKind.i64.wrap (i2 - 1) = i2 - 1 := q2d (by omega)
      (have hF := (aI @u5 (aI @hge @hwr)); refine q01 (k:=?_); clear hF)
      (refine Fin.nextW ((i2 - 1, ot2 ++ [i2])) ?_ (have hW := (aI @q1t (aI @q03 @q26)); q0g); (try dsimp only))
      exact ⟨⟨by omega, hot3, hcov3, by simp; omega⟩, by omega⟩
     ·have hup : ∀ x ∈ up, 0 ≤ x ∧ x < (E.length : Int) := fun x hx => (hu x).1 hx
      have hlo : ∀ x ∈ lo, 0 ≤ x ∧ x < (E.length : Int) := fun x hx => (hlh x).1 (.inl hx)
      have hhg : ∀ x ∈ hg, 0 ≤ x ∧ x < (E.length : Int) := fun x hx => (hlh x).1 (.inr hx)
      have f1 := zbl E up hE hc hup hwE (by omega)
      have f2 := zbl E ot2 hE hc hot2 hwE (by omega)
      have f3 := zbl E lo hE hc hlo hwE (by omega)
      have f4 := zbl E hg hE hc hhg hwE (by omega)
      have s1 : Uni E (q4k (q4e E up)) := (qan hE hc (q2m hup)).same (qej hup fun i h1 h2 => (hu i).2 ⟨h1, h2⟩)
      have s2 : Uni E (q4k (q4e E ot2)) := (qan hE hc (q2m hot2)).same (qej hot2 fun i h1 h2 => hcov i (by omega) h2)
      rw [s2.uniq s1] at f2
      have s3 := qan hE hc (q2m hlo)
      have s4 := qan hE hc (q2m hhg)
      have o3 : Of E (stF (q4k (q4e E lo))) (q4k (q4e E lo)) := ⟨_, q2m hlo, s3, rfl⟩
      have o4 : Of E (stF (q4k (q4e E hg))) (q4k (q4e E hg)) := ⟨_, q2m hhg, s4, rfl⟩
      have o1 : Of E (stF (q4k (q4e E up))) (q4k (q4e E up)) := ⟨E, fun x hx => hx, s1, rfl⟩
      obtain ⟨L, hL⟩ := qar s4.form s3.form (s4.clash s3 fun x hx y hy => hc x (q2m hhg x hx) y (q2m hlo y hy))
      obtain ⟨q1, q2, q3⟩ := Of.join o4 o3 hL
      have s5 := s4.union s3 hL
      rw [← qrq s4.form s3.form hL] at s5
      have s6 : Uni E (qcw (q4k (q4e E hg)) (q4k (q4e E lo))) := s5.same fun x => by
       rw [List.mem_append]
       refine ⟨fun h => h.elim (q2m hhg x) (q2m hlo x), fun h => ?_⟩
       obtain ⟨k, hk, rfl⟩ := List.mem_map.1 ((qej hup fun i h1 h2 => (hu i).2 ⟨h1, h2⟩) x |>.2 h)
       rcases (hlh k).2 ((hu k).1 hk) with h | h
       ·exact .inr (List.mem_map.2 ⟨k, h, rfl⟩)
       ·exact .inl (List.mem_map.2 ⟨k, h, rfl⟩)
      have w1 := o1.wts hE
      have w3 := o3.wts hE
      have w4 := o4.wts hE
      have j1 := qgz (stF (q4k (q4e E hg))) (stF (q4k (q4e E lo))) (by omega) (by omega)
      rw [q1, q2, s6.uniq s1] at j1
      have eq1 := q6w (stF (q4k (q4e E up))) (stF (q4k (q4e E up))) (by omega) (by omega)
      rw [qj4] at eq1
      clear o1 o3 o4 q1 q2 q3 s1 s2 s3 s4 s5 s6 w1 w3 w4
      generalize stF (q4k (q4e E up)) = sa at *
      generalize stF (q4k (q4e E lo)) = sl at *
      generalize stF (q4k (q4e E hg)) = sh at *
      have ha := q81 sa.live sa.past.vec sa.past.cloud sa.defer
      have hl := q81 sl.live sl.past.vec sl.past.cloud sl.defer
      have hh := q81 sh.live sh.past.vec sh.past.cloud sh.defer
      unfold q40 at f1 f2 f3 f4 j1 eq1
      (have hF := @hge; refine q01 (k:=?_); clear hF)
      refine qc9 (fun j => j == 38) [.sl 4 (q53 E), .sl 1 (q04 up)] (he := f1) (k:=?_)
      (have hF := @ha; refine q01 (k:=?_); clear hF)
      refine qc9 (fun j => j == 72) [.sl 4 (q53 E), .sl 1 (q04 ot2)] (he := f2) (k:=?_)
      (have hF := @ha; refine q01 (k:=?_); clear hF)
      refine qc9 (fun j => j == 46) [.sl 4 (q53 E), .sl 1 (q04 lo)] (he := f3) (k:=?_)
      (have hF := (aI @ha @hl); refine q01 (k:=?_); clear hF)
      refine qc9 (fun j => j == 50) [.sl 4 (q53 E), .sl 1 (q04 hg)] (he := f4) (k:=?_)
      (have hF := (aI @ha (aI @hl @hh)); refine q01 (k:=?_); clear hF)
      refine q00 [_, _] (he := eq1) (k:=?_)
      (have hF := (aI @ha (aI @hl @hh)); refine q01 (k:=?_); clear hF)
      refine q00 [_, _] (he := j1) (k:=?_)
      (have hF := (aI @ha (aI @hl @hh)); refine q01 (k:=?_); clear hF)
      refine q00 [_, _] (he := eq1) (k:=?_)
      (have hF := (aI @ha (aI @hl @hh)); refine q01 (k:=?_); clear hF)
      exact Fin.tmp' rfl rfl

end Go.Proofs.YthejoeiecenjkaaGreat.Avm
