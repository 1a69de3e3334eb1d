/- Part 5 of the proof: lemmas. -/
import Derived.Test.YthejoeiecenjkaaGreatU4
import Derived.Test.YthejoeiecenjkaaGreatProg
import Derived.KernelRfl
import Derived.Shelf.SlSortCmp.NoneTotal
set_option maxRecDepth 100000
set_option maxHeartbeats 4000000
set_option linter.unusedVariables false
set_option linter.unusedSimpArgs false
set_option linter.unusedSectionVars false
set_option linter.defProp false
namespace Go.Proofs.YthejoeiecenjkaaGreat.Avm
open Go.Proofs
def z0r : List SOp := [zO 4 (.assign (.const (.int .i64 0)))]
instance : Live z0r := ⟨[0,1]⟩
def z0q : List SOp := [zM 5 0,zM 6 1,zO 7 (.call ⟨.value (.func 173),#[.tmp 5,.tmp 6],#[9,9]⟩),zG 4 7]
instance : Live z0q := ⟨[0,1]⟩
def t_k159 : SC :=
 (.seq (.ops false z0r) (.seq (.ops false z0q) .ret))
theorem it_k159 : FnIs Tryz.prog 159 8 [.tmp 4] t_k159 := ⟨Tryz.f159, _, Tryz.func159, rfl, rfl, rfl, rfl, by kernel_rfl⟩

def z3t : List SOp := [zO 4 (.assign (.const (.int .i64 0)))]
instance : Live z3t := ⟨[0,1]⟩
def z3s : List SOp := [zM 5 0,zM 6 1,zO 7 (.call ⟨.value (.func 159),#[.tmp 5,.tmp 6],#[9,9]⟩),zG 4 7]
instance : Live z3s := ⟨[0,1]⟩
def t_k138 : SC :=
 (.seq (.ops false z3t) (.seq (.ops false z3s) .ret))
theorem it_k138 : FnIs Tryz.prog 138 8 [.tmp 4] t_k138 := ⟨Tryz.f138, _, Tryz.func138, rfl, rfl, rfl, rfl, by kernel_rfl⟩

def z9l : List SOp := [zO 2 (.box 91 (.tmp 0)),zO 3 (.box 91 (.tmp 1)),zO 4 (.assign (.const (.int .i64 0)))]
instance : Live z9l := ⟨[0,1]⟩
def z9k : List SOp := [zF 6 91 2 0,zL 7 9 6,zF 8 91 3 0,zL 9 9 8,zO 10 (.call ⟨.value (.func 138),#[.tmp 7,.tmp 9],#[9,9]⟩),zG 5 10]
instance : Live z9k := ⟨[2,3]⟩
def z9j : List SOp := [zM 11 5,zO 12 (.binOp .neq 3 (.tmp 11) (.const (.int .i64 0)) 3)]
instance : Live z9j := ⟨[2,3,5]⟩
def z9i : List SOp := [zM 13 5,zG 4 13]
instance : Live z9i := ⟨[5]⟩
def z9h : List SOp := [zF 14 91 2 1,zL 15 26 14,zF 16 91 3 1,zL 17 26 16,zO 18 (.call ⟨.value (.func 123),#[.tmp 15,.tmp 17],#[26,26]⟩),zG 4 18]
instance : Live z9h := ⟨[2,3]⟩
def t_k106 : SC :=
 (.seq (.ops false z9l) (.seq (.seq (.ops false z9k) (.seq (.ops false z9j) (.cond (.tmp 12) (.seq (.ops false z9i) .ret) .skip))) (.seq (.ops false z9h) .ret)))
theorem it_k106 : FnIs Tryz.prog 106 19 [.tmp 4] t_k106 := ⟨Tryz.f106, _, Tryz.func106, rfl, rfl, rfl, rfl, by kernel_rfl⟩

def z9r : List SOp := [zO 1 (.box 91 (.tmp 0)),zO 2 (.assign (.const (.int .i64 0)))]
instance : Live z9r := ⟨[0]⟩
def z9q : List SOp := [zF 3 91 1 0,zL 4 9 3,zO 5 (.binOp .neq 9 (.tmp 4) (.const (.string ⟨#[]⟩)) 9),zM 6 5,⟨some 7,.fieldAddr 91 (.tmp 1) 0,some ((some 6),true)⟩,⟨some 8,.load 9 (.tmp 7),some ((some 6),true)⟩,⟨some 9,.call ⟨.value (.func 137),#[.tmp 8],#[9]⟩,some ((some 6),true)⟩,⟨some 10,.unOp .not 4 (.tmp 9),some ((some 6),true)⟩,zO 11 (.pick (.tmp 6) (.tmp 10) (.const (.bool false)))]
instance : Live z9q := ⟨[1]⟩
def z9p : List SOp := [zO 2 (.assign (.const (.int .i64 5)))]
instance : Live z9p := ⟨[]⟩
def z9o : List SOp := [zF 12 91 1 1,zL 13 26 12,zO 14 (.call ⟨.value (.func 54),#[.tmp 13],#[26]⟩),zO 15 (.unOp .not 4 (.tmp 14)),zM 16 15,⟨some 17,.fieldAddr 91 (.tmp 1) 1,some ((some 16),false)⟩,⟨some 18,.load 26 (.tmp 17),some ((some 16),false)⟩,⟨some 19,.call ⟨.value (.func 92),#[.tmp 18],#[26]⟩,some ((some 16),false)⟩,zO 20 (.pick (.tmp 16) (.const (.bool true)) (.tmp 19))]
instance : Live z9o := ⟨[1]⟩
def z9n : List SOp := [zO 2 (.assign (.const (.int .i64 1)))]
instance : Live z9n := ⟨[]⟩
def z9m : List SOp := [zO 2 (.assign (.const (.int .i64 0)))]
instance : Live z9m := ⟨[]⟩
def t_k105 : SC :=
 (.seq (.ops false z9r) (.seq (.seq (.ops false z9q) (.cond (.tmp 11) (.seq (.ops false z9p) .ret) .skip)) (.seq (.seq (.ops false z9o) (.cond (.tmp 20) (.seq (.ops false z9n) .ret) .skip)) (.seq (.ops false z9m) .ret))))
theorem it_k105 : FnIs Tryz.prog 105 21 [.tmp 2] t_k105 := ⟨Tryz.f105, _, Tryz.func105, rfl, rfl, rfl, rfl, by kernel_rfl⟩

def zke : List SOp := [zO 2 (.assign (.const (.int .i64 0)))]
instance : Live zke := ⟨[0]⟩
def zkd : List SOp := [zM 5 0,zO 6 (.call ⟨.builtin .len,#[.tmp 5],#[27]⟩),zO 7 (.move (.const (.int .i64 0)))]
instance : Live zkd := ⟨[0]⟩
def zkc : List SOp := [zO 8 (.binOp .lss 3 (.tmp 7) (.tmp 6) 3)]
instance : Live zkc := ⟨[0,5,6,7]⟩
def zkb : List SOp := [zM 9 7,zI 10 27 5 7,zL 11 91 10,zO 4 (.alloc 91),zG 3 9,⟨none,.store 91 (.tmp 4) (.tmp 11),none⟩]
instance : Live zkb := ⟨[0,5,6,7]⟩
def zka : List SOp := [zL 12 91 4,zO 13 (.call ⟨.value (.func 105),#[.tmp 12],#[91]⟩),zO 14 (.binOp .neq 32 (.tmp 13) (.const (.int .i64 0)) 32),zM 15 14,⟨some 16,.move (.tmp 3),some ((some 15),false)⟩,⟨some 17,.binOp .gtr 3 (.tmp 16) (.const (.int .i64 0)) 3,some ((some 15),false)⟩,⟨some 18,.move (.tmp 17),some ((some 15),false)⟩,⟨some 19,.move (.tmp 0),some ((some 18),true)⟩,⟨some 20,.move (.tmp 3),some ((some 18),true)⟩,⟨some 21,.binOp .sub 3 (.tmp 20) (.const (.int .i64 1)) 3,some ((some 18),true)⟩,⟨some 22,.indexAddr 27 (.tmp 19) (.tmp 21),some ((some 18),true)⟩,⟨some 23,.load 91 (.tmp 22),some ((some 18),true)⟩,⟨some 24,.load 91 (.tmp 4),some ((some 18),true)⟩,⟨some 25,.call ⟨.value (.func 106),#[.tmp 23,.tmp 24],#[91,91]⟩,some ((some 18),true)⟩,⟨some 26,.binOp .geq 3 (.tmp 25) (.const (.int .i64 0)) 3,some ((some 18),true)⟩,⟨some 27,.pick (.tmp 18) (.tmp 26) (.const (.bool false)),some ((some 15),false)⟩,zO 28 (.pick (.tmp 15) (.const (.bool true)) (.tmp 27))]
instance : Live zka := ⟨[0,3,4,5,6,7]⟩
def zk9 : List SOp := [zO 2 (.assign (.const (.int .i64 1)))]
instance : Live zk9 := ⟨[]⟩
def zk8 : List SOp := [zO 29 (.binOp .add 3 (.tmp 7) (.const (.int .i64 1)) 3),zM 7 29]
instance : Live zk8 := ⟨[0,5,6,7]⟩
def zk7 : List SOp := [zO 2 (.assign (.const (.int .i64 0)))]
instance : Live zk7 := ⟨[]⟩
def qu4 : SC :=
 (.seq (.ops false zkc) (.seq (.cond (.tmp 8) .skip (.exit 0)) (.seq (.block 1 (.seq (.ops false zkb) (.seq (.ops true zka) (.cond (.tmp 28) (.seq (.ops false zk9) .ret) .skip)))) (.ops false zk8))))
def t_k55 : SC :=
 (.seq (.ops false zke) (.seq (.seq (.ops false zkd) (.block 0 (.loop qu4))) (.seq (.ops false zk7) .ret)))
theorem it_k55 : FnIs Tryz.prog 55 30 [.tmp 2] t_k55 := ⟨Tryz.f55, _, Tryz.func55, rfl, rfl, rfl, rfl, by kernel_rfl⟩

def zak : List SOp := [zO 1 (.box 62 (.tmp 0)),zO 2 (.assign (.const (.int .i64 0)))]
instance : Live zak := ⟨[0]⟩
def zaj : List SOp := [zF 4 62 1 0,zF 5 41 4 0,zL 6 3 5,zO 7 (.binOp .lss 3 (.tmp 6) (.const (.int .i64 0)) 3),zM 8 7,⟨some 9,.fieldAddr 62 (.tmp 1) 0,some ((some 8),false)⟩,⟨some 10,.fieldAddr 41 (.tmp 9) 0,some ((some 8),false)⟩,⟨some 11,.load 3 (.tmp 10),some ((some 8),false)⟩,⟨some 12,.binOp .geq 3 (.tmp 11) (.const (.int .i64 16)) 3,some ((some 8),false)⟩,zO 13 (.pick (.tmp 8) (.const (.bool true)) (.tmp 12)),zG 3 13]
instance : Live zaj := ⟨[1]⟩
def zai : List SOp := [zO 2 (.assign (.const (.int .i64 3)))]
instance : Live zai := ⟨[]⟩
def zah : List SOp := [zF 15 62 1 0,zF 16 41 15 1,zL 17 3 16,zO 18 (.binOp .lss 3 (.tmp 17) (.const (.int .i64 1)) 3),zM 19 18,⟨some 20,.fieldAddr 62 (.tmp 1) 0,some ((some 19),false)⟩,⟨some 21,.fieldAddr 41 (.tmp 20) 1,some ((some 19),false)⟩,⟨some 22,.load 3 (.tmp 21),some ((some 19),false)⟩,⟨some 23,.binOp .gtr 3 (.tmp 22) (.const (.int .i64 1000000000)) 3,some ((some 19),false)⟩,zO 24 (.pick (.tmp 19) (.const (.bool true)) (.tmp 23)),zG 14 24]
instance : Live zah := ⟨[1]⟩
def zag : List SOp := [zO 2 (.assign (.const (.int .i64 2)))]
instance : Live zag := ⟨[]⟩
def zaf : List SOp := [zF 26 62 1 1,zL 27 9 26,zO 28 (.call ⟨.value (.func 137),#[.tmp 27],#[9]⟩),zO 29 (.unOp .not 4 (.tmp 28)),zG 25 29]
instance : Live zaf := ⟨[1]⟩
def zae : List SOp := [zO 2 (.assign (.const (.int .i64 5)))]
instance : Live zae := ⟨[]⟩
def zad : List SOp := [zF 31 62 1 2,zL 32 3 31,zO 33 (.binOp .lss 3 (.tmp 32) (.const (.int .i64 1)) 3),zM 34 33,⟨some 35,.fieldAddr 62 (.tmp 1) 2,some ((some 34),false)⟩,⟨some 36,.load 3 (.tmp 35),some ((some 34),false)⟩,⟨some 37,.binOp .gtr 3 (.tmp 36) (.const (.int .i64 1000000)) 3,some ((some 34),false)⟩,zO 38 (.pick (.tmp 34) (.const (.bool true)) (.tmp 37)),zG 30 38]
instance : Live zad := ⟨[1]⟩
def zac : List SOp := [zO 2 (.assign (.const (.int .i64 6)))]
instance : Live zac := ⟨[]⟩
def qpr : List SOp := [zO 2 (.assign (.const (.int .i64 0)))]
instance : Live qpr := ⟨[]⟩
def t_k101 : SC :=
 (.seq (.ops false zak) (.seq (.block 0 (.seq (.ops false zaj) (.cond (.tmp 3) (.seq (.ops false zai) .ret) (.seq (.ops false zah) (.cond (.tmp 14) (.seq (.ops false zag) .ret) (.seq (.ops false zaf) (.cond (.tmp 25) (.seq (.ops false zae) .ret) (.seq (.ops false zad) (.cond (.tmp 30) (.seq (.ops false zac) .ret) .skip))))))))) (.seq (.ops false qpr) .ret)))
theorem it_k101 : FnIs Tryz.prog 101 39 [.tmp 2] t_k101 := ⟨Tryz.f101, _, Tryz.func101, rfl, rfl, rfl, rfl, by kernel_rfl⟩

def zab : List SOp := [zO 2 (.box 41 (.tmp 0)),zO 3 (.box 41 (.tmp 1)),zO 4 (.assign (.const (.bool false)))]
instance : Live zab := ⟨[0,1]⟩
def zaa : List SOp := [zF 5 41 2 0,zL 6 3 5,zF 7 41 3 0,zL 8 3 7,zO 9 (.binOp .lss 3 (.tmp 6) (.tmp 8) 3),zM 10 9,⟨some 11,.fieldAddr 41 (.tmp 2) 0,some ((some 10),false)⟩,⟨some 12,.load 3 (.tmp 11),some ((some 10),false)⟩,⟨some 13,.fieldAddr 41 (.tmp 3) 0,some ((some 10),false)⟩,⟨some 14,.load 3 (.tmp 13),some ((some 10),false)⟩,⟨some 15,.binOp .eql 3 (.tmp 12) (.tmp 14) 3,some ((some 10),false)⟩,⟨some 16,.move (.tmp 15),some ((some 10),false)⟩,⟨some 17,.fieldAddr 41 (.tmp 2) 1,some ((some 16),true)⟩,⟨some 18,.load 3 (.tmp 17),some ((some 16),true)⟩,⟨some 19,.fieldAddr 41 (.tmp 3) 1,some ((some 16),true)⟩,⟨some 20,.load 3 (.tmp 19),some ((some 16),true)⟩,⟨some 21,.binOp .lss 3 (.tmp 18) (.tmp 20) 3,some ((some 16),true)⟩,⟨some 22,.pick (.tmp 16) (.tmp 21) (.const (.bool false)),some ((some 10),false)⟩,zO 23 (.pick (.tmp 10) (.const (.bool true)) (.tmp 22)),zG 4 23]
instance : Live zaa := ⟨[2,3]⟩
def t_k102 : SC :=
 (.seq (.ops false zab) (.seq (.ops false zaa) .ret))
theorem it_k102 : FnIs Tryz.prog 102 24 [.tmp 4] t_k102 := ⟨Tryz.f102, _, Tryz.func102, rfl, rfl, rfl, rfl, by kernel_rfl⟩

def zkp : List SOp := [zO 2 (.assign (.const (.int .i64 0)))]
instance : Live zkp := ⟨[0]⟩
def zko : List SOp := [zM 5 0,zO 6 (.call ⟨.builtin .len,#[.tmp 5],#[22]⟩),zO 7 (.move (.const (.int .i64 0)))]
instance : Live zko := ⟨[0]⟩
def zkn : List SOp := [zO 8 (.binOp .lss 3 (.tmp 7) (.tmp 6) 3)]
instance : Live zkn := ⟨[0,5,6,7]⟩
def zkm : List SOp := [zM 9 7,zI 10 22 5 7,zL 11 62 10,zO 4 (.alloc 62),zG 3 9,⟨none,.store 62 (.tmp 4) (.tmp 11),none⟩]
instance : Live zkm := ⟨[0,5,6,7]⟩
def zkl : List SOp := [zL 12 62 4,zO 13 (.call ⟨.value (.func 101),#[.tmp 12],#[62]⟩),zO 14 (.binOp .neq 32 (.tmp 13) (.const (.int .i64 0)) 32),zM 15 14,⟨some 16,.move (.tmp 3),some ((some 15),false)⟩,⟨some 17,.binOp .gtr 3 (.tmp 16) (.const (.int .i64 0)) 3,some ((some 15),false)⟩,⟨some 18,.move (.tmp 17),some ((some 15),false)⟩,⟨some 19,.move (.tmp 0),some ((some 18),true)⟩,⟨some 20,.move (.tmp 3),some ((some 18),true)⟩,⟨some 21,.binOp .sub 3 (.tmp 20) (.const (.int .i64 1)) 3,some ((some 18),true)⟩,⟨some 22,.indexAddr 22 (.tmp 19) (.tmp 21),some ((some 18),true)⟩,⟨some 23,.fieldAddr 62 (.tmp 22) 0,some ((some 18),true)⟩,⟨some 24,.load 41 (.tmp 23),some ((some 18),true)⟩,⟨some 25,.fieldAddr 62 (.tmp 4) 0,some ((some 18),true)⟩,⟨some 26,.load 41 (.tmp 25),some ((some 18),true)⟩,⟨some 27,.call ⟨.value (.func 102),#[.tmp 24,.tmp 26],#[41,41]⟩,some ((some 18),true)⟩,⟨some 28,.unOp .not 4 (.tmp 27),some ((some 18),true)⟩,⟨some 29,.pick (.tmp 18) (.tmp 28) (.const (.bool false)),some ((some 15),false)⟩,zO 30 (.pick (.tmp 15) (.const (.bool true)) (.tmp 29))]
instance : Live zkl := ⟨[0,3,4,5,6,7]⟩
def zkk : List SOp := [zO 2 (.assign (.const (.int .i64 1)))]
instance : Live zkk := ⟨[]⟩
def zkj : List SOp := [zO 31 (.binOp .add 3 (.tmp 7) (.const (.int .i64 1)) 3),zM 7 31]
instance : Live zkj := ⟨[0,5,6,7]⟩
def zki : List SOp := [zO 2 (.assign (.const (.int .i64 0)))]
instance : Live zki := ⟨[]⟩
def qu5 : SC :=
 (.seq (.ops false zkn) (.seq (.cond (.tmp 8) .skip (.exit 0)) (.seq (.block 1 (.seq (.ops false zkm) (.seq (.ops true zkl) (.cond (.tmp 30) (.seq (.ops false zkk) .ret) .skip)))) (.ops false zkj))))
def t_k53 : SC :=
 (.seq (.ops false zkp) (.seq (.seq (.ops false zko) (.block 0 (.loop qu5))) (.seq (.ops false zki) .ret)))
theorem it_k53 : FnIs Tryz.prog 53 32 [.tmp 2] t_k53 := ⟨Tryz.f53, _, Tryz.func53, rfl, rfl, rfl, rfl, by kernel_rfl⟩

def z8c : List SOp := [zO 1 (.box 41 (.tmp 0)),zO 2 (.assign (.const (.bool false)))]
instance : Live z8c := ⟨[0]⟩
def z8b : List SOp := [zF 3 41 1 0,zL 4 3 3,zO 5 (.binOp .geq 3 (.tmp 4) (.const (.int .i64 0)) 3),zM 6 5,⟨some 7,.fieldAddr 41 (.tmp 1) 0,some ((some 6),true)⟩,⟨some 8,.load 3 (.tmp 7),some ((some 6),true)⟩,⟨some 9,.binOp .lss 3 (.tmp 8) (.const (.int .i64 16)) 3,some ((some 6),true)⟩,zO 10 (.pick (.tmp 6) (.tmp 9) (.const (.bool false))),zM 11 10,⟨some 12,.fieldAddr 41 (.tmp 1) 1,some ((some 11),true)⟩,⟨some 13,.load 3 (.tmp 12),some ((some 11),true)⟩,⟨some 14,.binOp .geq 3 (.tmp 13) (.const (.int .i64 1)) 3,some ((some 11),true)⟩,zO 15 (.pick (.tmp 11) (.tmp 14) (.const (.bool false))),zM 16 15,⟨some 17,.fieldAddr 41 (.tmp 1) 1,some ((some 16),true)⟩,⟨some 18,.load 3 (.tmp 17),some ((some 16),true)⟩,⟨some 19,.binOp .leq 3 (.tmp 18) (.const (.int .i64 1000000000)) 3,some ((some 16),true)⟩,zO 20 (.pick (.tmp 16) (.tmp 19) (.const (.bool false))),zG 2 20]
instance : Live z8b := ⟨[1]⟩
def t_k111 : SC :=
 (.seq (.ops false z8c) (.seq (.ops false z8b) .ret))
theorem it_k111 : FnIs Tryz.prog 111 21 [.tmp 2] t_k111 := ⟨Tryz.f111, _, Tryz.func111, rfl, rfl, rfl, rfl, by kernel_rfl⟩

def zig : List SOp := [zO 1 (.box 26 (.tmp 0)),zO 2 (.assign (.const (.bool false)))]
instance : Live zig := ⟨[0]⟩
def zif : List SOp := [zL 3 26 1,zL 4 26 1,zO 5 (.call ⟨.value (.func 117),#[.tmp 4],#[26]⟩),zO 6 (.call ⟨.value (.func 50),#[.tmp 3,.tmp 5],#[26,26]⟩),zG 2 6]
instance : Live zif := ⟨[1]⟩
def t_k68 : SC :=
 (.seq (.ops false zig) (.seq (.ops true zif) .ret))
theorem it_k68 : FnIs Tryz.prog 68 7 [.tmp 2] t_k68 := ⟨Tryz.f68, _, Tryz.func68, rfl, rfl, rfl, rfl, by kernel_rfl⟩

theorem hook_cmp {P : Program} {f : FuncId} {fn : Func} (hf : P.funcs[f]? = some fn) (h1 : (fn.name = "runtime.NumGoroutine") = False) (h2 : (fn.body = none) = True) (h3 : Extern.findNext fn = none) (h4 : Extern.find fn = some Extern.BytealgCompare.compare) {s : AS} {x y : Operand} {ts : Array TypeId} {a b : ByteArray} (hx : ev s.T x = .str a) (hy : ev s.T y = .str b) :
 Hook P s (.call ⟨.value (.func f), #[x, y], ts⟩) (fun v M' => M' = s.M ∧ v = .int .i64 (q8p a b)) := by
 intro n B G act w hR o ho K Q hK
 have q1 := hR.ev x
 have q2 := hR.ev y
 rw [hx] at q1
 rw [hy] at q2
 generalize hxv : act.eval x = xv at q1
 generalize hyv : act.eval y = yv at q2
 cases q1
 cases q2
 have hrun : (execOp act.eval o).run P w = .ok (.value (.int .i64 (q8p a b))) w := by
  unfold execOp
  rw [ho]
  have hc := Go.Lib.run_compareString (P := P) a b w
  rw [qch] at hc
  have hf0 : act.eval (.func f) = .func (.func f) #[] #[] := rfl
  simp [resolve, Deferred.ofValue, invoke, callFunc, hf, hf0, h1, h2, h3, h4, hxv, hyv, hc, Result.andThen, q8p, bs]
 unfold Oper.wp
 rw [hrun]
 exact hK (.int .i64 (q8p a b)) _ s.M w G ⟨rfl, rfl⟩ (.refl G w) hR (.int _ _)
theorem ev_k159 (a b : ByteArray) : Ev (En Tryz.prog rfl).P 159 [.str a, .str b] (.ret (.int .i64 (q8p a b))) := by
 refine Ev.of_body it_k159 (by simp) (Run.start ?_)
 unfold t_k159
 (have hF := True.intro; refine q01 (k:=?_); clear hF)
 refine q4q (hook_cmp (f := 173) (fn := Tryz.f173) Tryz.func173 (eq_false (by decide)) (eq_true rfl) rfl rfl rfl rfl) ?_
 rintro v M' ⟨rfl, rfl⟩
 dsimp only [AS.put]
 (have hF := True.intro; refine q01 (k:=?_); clear hF)
 exact Fin.tmp' rfl rfl
theorem ev_k138 (a b : ByteArray) : Ev (En Tryz.prog rfl).P 138 [.str a, .str b] (.ret (.int .i64 (q8p a b))) := by
 refine Ev.of_body it_k138 (by simp) (Run.start ?_)
 unfold t_k138
 (have hF := True.intro; refine q01 (k:=?_); clear hF)
 refine q00 [.str a, .str b] (he := ev_k159 a b) (k:=?_)
 (have hF := True.intro; refine q01 (k:=?_); clear hF)
 exact Fin.tmp' rfl rfl
theorem qst (a b : Rec) (ha : wt a.past ≤ 50000000) (hb : wt b.past ≤ 50000000) : Ev (En Tryz.prog rfl).P 106 [q4w a, q4w b] (.ret (.int .i64 (q3x a b))) := by
 refine Ev.of_body it_k106 (by simp) (Run.start ?_)
 unfold t_k106 q4w q3x
 have c1 := ev_k138 a.sku b.sku
 have c2 := ev_k123 a.past b.past ha hb
 generalize q8p a.sku b.sku = v at c1 ⊢
 (have hF := True.intro; refine q01 (k:=?_); clear hF)
 refine q00 [.str a.sku, .str b.sku] (he := c1) (k:=?_)
 by_cases h : v = 0
 ·rw [if_pos h]
  (have hF := @h; refine q01 (k:=?_); clear hF)
  refine q00 [q0h a.past, q0h b.past] (he := c2) (k:=?_)
  (have hF := True.intro; refine q01 (k:=?_); clear hF)
  exact Fin.tmp' rfl rfl
 ·rw [if_neg h]
  (have hF := True.intro; refine q01 (k:=?_); clear hF)
  exact Fin.tmp' rfl rfl
theorem qq8 (p : Pst) : qs0 p (q1g p) = q18 p := by
 refine qc0 ?_
 rw [q36]
 constructor
 ·intro h
  have : ∀ a b : Pst, a.vec = b.vec → a.cloud = b.cloud → a = b := fun a b u v => by cases a; cases b; simp at u v; rw [u, v]
  have h' := of_decide_eq_true h
  exact (this _ _ h'.1 h'.2).symm
 ·intro h
  have h' : q1g p = p := h
  rw [h']
  exact qb8 ⟨rfl, rfl⟩
theorem zqs (p : Pst) (hw : wt p ≤ 30000000) : Ev (En Tryz.prog rfl).P 68 [q0h p] (.ret (.bool (q18 p))) := by
 have c1 := qj1 p (by omega)
 have w := q6g p
 have c2 := zqv p (q1g p) (by unfold wt at *; omega) (by unfold wt at *; omega)
 rw [qq8] at c2
 refine Ev.of_body it_k68 (by simp) (Run.start ?_)
 unfold t_k68 q0h
 (have hF := True.intro; refine q01 (k:=?_); clear hF)
 refine q00 [q0h p] (he := c1) (k:=?_)
 (have hF := True.intro; refine q01 (k:=?_); clear hF)
 refine q00 [q0h p, q0h (q1g p)] (he := c2) (k:=?_)
 (have hF := True.intro; refine q01 (k:=?_); clear hF)
 exact Fin.tmp' rfl rfl
theorem q9j (s : ByteArray) : (s = (⟨#[]⟩ : ByteArray)) = (s.size = 0) := propext q5n
theorem ev_k105 (r : Rec) (hw : wt r.past ≤ 40000000) : Ev (En Tryz.prog rfl).P 105 [q4w r] (.ret (.int .i64 (q31 r))) := by
 refine Ev.of_body it_k105 (by simp) (Run.start ?_)
 unfold t_k105 q4w q31
 have c1 := qso r.sku
 have c2 := qgx r.past hw
 have c3 := qql r.past (by omega)
 have e := q9j r.sku
 generalize q88 r.sku = v1 at c1 ⊢
 generalize q18 r.past = v2 at c2 ⊢
 generalize q2x r.past = v3 at c3 ⊢
 have tail : ∀ (X : Prop), X → X := fun _ x => x
 by_cases h0 : r.sku.size = 0
 ·have h0' : (r.sku.size = 0) = True := eq_true h0
  simp only [h0', not_true_eq_false, false_and, if_false]
  rw [h0'] at e
  (have hF := (aI @e (aI @decide_true @Bool.not_true)); refine q01 (k:=?_); clear hF)
  refine q00 [q0h r.past] (he := c2) (k:=?_)
  cases v2
  ·(have hF := True.intro; refine q01 (k:=?_); clear hF)
   exact Fin.tmp' rfl rfl
  ·(have hF := True.intro; refine q01 (k:=?_); clear hF)
   refine q00 [q0h r.past] (he := c3) (k:=?_)
   by_cases h3 : v3 = 0
   ·(have hF := @h3; refine q01 (k:=?_); clear hF)
    simp only [h3, or_true, if_true]
    exact Fin.tmp' rfl rfl
   ·(have hF := @h3; refine q01 (k:=?_); clear hF)
    simp only [h3, reduceCtorEq, or_false, if_false]
    exact Fin.tmp' rfl rfl
 ·have h0' : (r.sku.size = 0) = False := eq_false h0
  rw [h0'] at e
  simp only [h0', not_false_eq_true, true_and]
  (have hF := (aI @e (aI @decide_false @Bool.not_false)); refine q01 (k:=?_); clear hF)
  refine q00 [.str r.sku] (he := c1) (k:=?_)
  cases v1
  ·(have hF := True.intro; refine q01 (k:=?_); clear hF)
   exact Fin.tmp' rfl rfl
  ·(have hF := True.intro; refine q01 (k:=?_); clear hF)
   refine q00 [q0h r.past] (he := c2) (k:=?_)
   cases v2
   ·(have hF := True.intro; refine q01 (k:=?_); clear hF)
    exact Fin.tmp' rfl rfl
   ·(have hF := True.intro; refine q01 (k:=?_); clear hF)
    refine q00 [q0h r.past] (he := c3) (k:=?_)
    by_cases h3 : v3 = 0
    ·(have hF := @h3; refine q01 (k:=?_); clear hF)
     simp only [h3, or_true, if_true, reduceCtorEq, if_false]
     exact Fin.tmp' rfl rfl
    ·(have hF := @h3; refine q01 (k:=?_); clear hF)
     simp only [h3, reduceCtorEq, or_false, if_false]
     exact Fin.tmp' rfl rfl
theorem qgt {l : List Rec} {i : Nat} {r : Rec} (hr : l[i]? = some r) (hI : (∀ (j : Nat) q, j < i → l[j]? = some q → q31 q = 0) ∧ ∀ (j : Nat) a b, j + 1 < i → l[j]? = some a → l[j + 1]? = some b → q3x a b < 0) (h0 : q31 r = 0)
 (h1 : ∀ q, 0 < i → l[i - 1]? = some q → q3x q r < 0) : (∀ (j : Nat) q, j < i + 1 → l[j]? = some q → q31 q = 0) ∧ ∀ (j : Nat) a b, j + 1 < i + 1 → l[j]? = some a → l[j + 1]? = some b → q3x a b < 0 := by
 refine ⟨fun j q hj hq => ?_, fun j a b hj ha hb => ?_⟩
 ·by_cases e : j = i
  ·subst e; rw [hr] at hq; cases hq; exact h0
  ·exact hI.1 j q (by omega) hq
 ·by_cases e : j + 1 = i
  ·subst e
   rw [hr] at hb
   cases hb
   exact h1 a (by omega) (by simpa using ha)
  ·exact hI.2 j a b (by omega) ha hb
theorem q2k (l : List Rec) (hl : l.length ≤ 1000000000) (hw : ∀ r ∈ l, wt r.past ≤ 40000000) : Ev (En Tryz.prog rfl).P 55 [.sl 3 (q08 l)] (.ret (.int .i64 (if q34 l = true then 0 else 1))) := by
 refine Ev.of_body it_k55 (by simp) (Run.start ?_)
 unfold t_k55
 have e1 := q0j l
 have hS := qrk
 (have hF := @e1; refine q01 (k:=?_); clear hF)
 refine Run.while (σ := Nat) (fun i => ⟨tms [(0, .sl 3 (q08 l)), (5, .sl 3 (q08 l)), (6, .int .i64 (l.length : Int)), (7, .int .i64 (i : Int))], mms []⟩)
  (fun i => i ≤ l.length ∧ (∀ (j : Nat) q, j < i → l[j]? = some q → q31 q = 0) ∧ ∀ (j : Nat) a b, j + 1 < i → l[j]? = some a → l[j + 1]? = some b → q3x a b < 0) (fun i => l.length - i) 0 (have hW := @q02; q0g) ⟨Nat.zero_le _, fun j q hj => absurd hj (Nat.not_lt_zero _), fun j a b hj => by omega⟩ ?_
 rintro i ⟨hi, hI⟩
 unfold qu4
 by_cases hlt : i < l.length
 ·obtain ⟨r, hr⟩ : ∃ r, l[i]? = some r := ⟨l[i], by simp [hlt]⟩
  have g1 := q0t hr
  have hwr := hw r (List.mem_of_getElem? hr)
  have c1 := ev_k105 r (by omega)
  have hst := fun h0 h1 => qgt hr hI h0 h1
  have hbad : q31 r ≠ 0 → ¬ q3s l := fun h hf => h (hf.1 i r hr)
  generalize q31 r = v at c1 hst hbad
  (have hF := (aI @e1 @g1); refine q01 (k:=?_); clear hF)
  refine q00 [q4w r] (he := c1) (k:=?_)
  by_cases hv : v = 0
  ·by_cases h0 : i = 0
   ·have hst := hst hv (fun q hq => by omega)
    have h0' : (i : Int) = 0 := by omega
    (have hF := (aI (aI @e1 @g1) (aI @hv @h0')); refine q01 (k:=?_); clear hF)
    have hi1 : ((0 : Int) + 1) = ((i + 1 : Nat) : Int) := by omega
    (refine Fin.nextW (i + 1) ?_ (have hW := (aI @q02 @hi1); q0g); (try dsimp only))
    exact ⟨⟨hlt, hst⟩, by omega⟩
   ·obtain ⟨q, hq⟩ : ∃ q, l[i - 1]? = some q := ⟨l[i - 1]'(by omega), by simp [show i - 1 < l.length by omega]⟩
    have g2 := q0t hq
    have hpw : IntKind.i64.wrap ((i : Int) - 1) = ((i - 1 : Nat) : Int) := by rw [q2d (by omega)]; omega
    have hwq := hw q (List.mem_of_getElem? hq)
    have c2 := qst q r (by omega) (by omega)
    have hst := hst hv
    have hbad2 : ¬ q3x q r < 0 → ¬ q3s l := fun h hf => h (hf.2 (i - 1) q r hq (by rw [show i - 1 + 1 = i by omega]; exact hr))
    have hst : q3x q r < 0 → _ := fun h => hst (fun q' _ hq' => by rw [hq] at hq'; cases hq'; exact h)
    generalize q3x q r = u at c2 hst hbad2
    (have hF := (aI (aI @e1 @g1) (aI @g2 (aI @hv @hpw))); refine q01 (k:=?_); clear hF)
    refine q00 [q4w q, q4w r] (he := c2) (k:=?_)
    by_cases hu : u < 0
    ·have hst := hst hu
     (have hF := (aI @e1 @g1); refine q01 (k:=?_); clear hF)
     (refine Fin.nextW (i + 1) ?_ (have hW := @q02; q0g); (try dsimp only))
     exact ⟨⟨hlt, hst⟩, by omega⟩
    ·rw [q5z (hbad2 hu)]
     (have hF := (aI @e1 @g1); refine q01 (k:=?_); clear hF)
     exact Fin.tmp' rfl rfl
  ·rw [q5z (hbad hv)]
   (have hF := (aI @e1 (aI @g1 @hv)); refine q01 (k:=?_); clear hF)
   exact Fin.tmp' rfl rfl
 ·rw [q2s ⟨fun j q hq => hI.1 j q (by
   rcases Nat.lt_or_ge j l.length with h | h
   ·omega
   ·rw [List.getElem?_eq_none h] at hq; cases hq) hq, fun j a b ha hb => hI.2 j a b (by
   rcases Nat.lt_or_ge (j + 1) l.length with h | h
   ·omega
   ·rw [List.getElem?_eq_none h] at hb; cases hb) ha hb⟩]
  (have hF := @e1; refine q01 (k:=?_); clear hF)
  exact Fin.tmp' rfl rfl
theorem ev_k55 (l : List Rec) (hw : q4y l ≤ 40000000) : Ev (En Tryz.prog rfl).P 55 [.sl 3 (q08 l)] (.ret (.int .i64 (if q34 l = true then 0 else 1))) := by
 have hlw := q7h l
 exact q2k l (by omega) (fun r hr => by have := qg5 hr; unfold wtK at this; omega)

theorem ev_k101 (e : Ent) : Ev (En Tryz.prog rfl).P 101 [qcn e] (.ret (.int .i64 (q2b e))) := by
 refine Ev.of_body it_k101 (by simp) (Run.start ?_)
 unfold t_k101 qcn q2b
 have c1 := qso e.sku
 generalize q88 e.sku = v at c1 ⊢
 by_cases h1 : e.rep < 0 ∨ 16 ≤ e.rep
 ·rw [if_pos h1]
  rcases h1 with h1 | h1
  all_goals
   (have hF := True.intro; refine q01 (k:=?_); clear hF)
  all_goals first | exact Fin.tmp' rfl rfl | (exfalso; omega)
 ·rw [if_neg h1]
  by_cases h2 : e.num < 1 ∨ 1000000000 < e.num
  ·rw [if_pos h2]
   rcases h2 with h2 | h2
   all_goals
    (have hF := True.intro; refine q01 (k:=?_); clear hF)
   all_goals first | exact Fin.tmp' rfl rfl | (exfalso; omega)
  ·rw [if_neg h2]
   (have hF := True.intro; refine q01 (k:=?_); clear hF)
   all_goals
    refine q00 [.str e.sku] (he := c1) (k:=?_)
    cases v
    case' false =>
     rw [if_pos rfl]
     (have hF := True.intro; refine q01 (k:=?_); clear hF)
     exact Fin.tmp' rfl rfl
    case' true =>
     rw [if_neg (by decide)]
     by_cases h3 : e.qty < 1 ∨ 1000000 < e.qty
     ·rw [if_pos h3]
      rcases h3 with h3 | h3
      all_goals
       (have hF := True.intro; refine q01 (k:=?_); clear hF)
      all_goals first | exact Fin.tmp' rfl rfl | (exfalso; omega)
     ·rw [if_neg h3]
      (have hF := True.intro; refine q01 (k:=?_); clear hF)
      all_goals first | exact Fin.tmp' rfl rfl | (exfalso; omega)
theorem ev_k102 (a b : Rn) : Ev (En Tryz.prog rfl).P 102 [q47 a, q47 b] (.ret (.bool (q3h a b))) := by
 refine Ev.of_body it_k102 (by simp) (Run.start ?_)
 unfold t_k102 q47 q3h
 by_cases h1 : a.1 < b.1
 ·rw [show (decide (a.1 < b.1) || (decide (a.1 = b.1) && decide (a.2 < b.2))) = true by simp [h1]]
  (have hF := True.intro; refine q01 (k:=?_); clear hF)
  exact Fin.tmp' rfl rfl
 ·by_cases h2 : a.1 = b.1
  ·rw [show (decide (a.1 < b.1) || (decide (a.1 = b.1) && decide (a.2 < b.2))) = decide (a.2 < b.2) by simp [h1, h2]]
   (have hF := True.intro; refine q01 (k:=?_); clear hF)
   exact Fin.tmp' rfl rfl
  ·rw [show (decide (a.1 < b.1) || (decide (a.1 = b.1) && decide (a.2 < b.2))) = false by simp [h1, h2]]
   (have hF := True.intro; refine q01 (k:=?_); clear hF)
   exact Fin.tmp' rfl rfl
theorem zr6 (d : Rn) : Ev (En Tryz.prog rfl).P 111 [q47 d] (.ret (.bool (q44 d.1 d.2))) := by
 refine Ev.of_body it_k111 (by simp) (Run.start ?_)
 unfold t_k111 q47 q44
 by_cases h1 : 0 ≤ d.1 <;> by_cases h2 : d.1 < 16 <;> by_cases h3 : 1 ≤ d.2 <;> by_cases h4 : d.2 ≤ 1000000000
 all_goals
  simp only [h1, h2, h3, h4, decide_true, decide_false, Bool.and_true, Bool.and_false, Bool.true_and, Bool.false_and]
  (have hF := True.intro; refine q01 (k:=?_); clear hF)
  all_goals first | exact Fin.tmp' rfl rfl | (exfalso; omega)
theorem qgu {l : List Ent} {i : Nat} {r : Ent} (hr : l[i]? = some r) (hI : (∀ (j : Nat) q, j < i → l[j]? = some q → q2b q = 0) ∧ ∀ (j : Nat) a b, j + 1 < i → l[j]? = some a → l[j + 1]? = some b → q3h a.dot b.dot = true) (h0 : q2b r = 0)
 (h1 : ∀ q, 0 < i → l[i - 1]? = some q → q3h q.dot r.dot = true) : (∀ (j : Nat) q, j < i + 1 → l[j]? = some q → q2b q = 0) ∧ ∀ (j : Nat) a b, j + 1 < i + 1 → l[j]? = some a → l[j + 1]? = some b → q3h a.dot b.dot = true := by
 refine ⟨fun j q hj hq => ?_, fun j a b hj ha hb => ?_⟩
 ·by_cases e : j = i
  ·subst e; rw [hr] at hq; cases hq; exact h0
  ·exact hI.1 j q (by omega) hq
 ·by_cases e : j + 1 = i
  ·subst e
   rw [hr] at hb
   cases hb
   exact h1 a (by omega) (by simpa using ha)
  ·exact hI.2 j a b (by omega) ha hb
theorem qqf {l : List Ent} {i : Nat} (hi : l.length ≤ i) (hI : (∀ (j : Nat) q, j < i → l[j]? = some q → q2b q = 0) ∧ ∀ (j : Nat) a b, j + 1 < i → l[j]? = some a → l[j + 1]? = some b → q3h a.dot b.dot = true) : q80 l :=
 ⟨fun j q hq => hI.1 j q (by
  rcases Nat.lt_or_ge j l.length with h | h
  ·omega
  ·rw [List.getElem?_eq_none h] at hq; cases hq) hq, fun j a b ha hb => hI.2 j a b (by
  rcases Nat.lt_or_ge (j + 1) l.length with h | h
  ·omega
  ·rw [List.getElem?_eq_none h] at hb; cases hb) ha hb⟩
theorem qgy (l : List Ent) (hl : l.length ≤ 1000000000) : Ev (En Tryz.prog rfl).P 53 [.sl 4 (q0a l)] (.ret (.int .i64 (if q6v l = true then 0 else 1))) := by
 refine Ev.of_body it_k53 (by simp) (Run.start ?_)
 unfold t_k53
 have e1 := q0o l
 have hS := qrk
 (have hF := @e1; refine q01 (k:=?_); clear hF)
 refine Run.while (σ := Nat) (fun i => ⟨tms [(0, .sl 4 (q0a l)), (5, .sl 4 (q0a l)), (6, .int .i64 (l.length : Int)), (7, .int .i64 (i : Int))], mms []⟩)
  (fun i => i ≤ l.length ∧ (∀ (j : Nat) q, j < i → l[j]? = some q → q2b q = 0) ∧ ∀ (j : Nat) a b, j + 1 < i → l[j]? = some a → l[j + 1]? = some b → q3h a.dot b.dot = true) (fun i => l.length - i) 0 (have hW := @q09; q0g) ⟨Nat.zero_le _, fun j q hj => absurd hj (Nat.not_lt_zero _), fun j a b hj => by omega⟩ ?_
 rintro i ⟨hi, hI⟩
 unfold qu5
 by_cases hlt : i < l.length
 ·obtain ⟨r, hr⟩ : ∃ r, l[i]? = some r := ⟨l[i], by simp [hlt]⟩
  have g1 := q16 hr
  have c1 := ev_k101 r
  have hst := fun h0 h1 => qgu hr hI h0 h1
  have hbad : q2b r ≠ 0 → ¬ q80 l := fun h hf => h (hf.1 i r hr)
  generalize q2b r = v at c1 hst hbad
  (have hF := (aI @e1 @g1); refine q01 (k:=?_); clear hF)
  refine q00 [qcn r] (he := c1) (k:=?_)
  by_cases hv : v = 0
  ·by_cases h0 : i = 0
   ·have hst := hst hv (fun q hq => by omega)
    have h0' : (i : Int) = 0 := by omega
    (have hF := (aI (aI @e1 @g1) (aI @hv @h0')); refine q01 (k:=?_); clear hF)
    have hi1 : ((0 : Int) + 1) = ((i + 1 : Nat) : Int) := by omega
    (refine Fin.nextW (i + 1) ?_ (have hW := (aI @q09 @hi1); q0g); (try dsimp only))
    exact ⟨⟨hlt, hst⟩, by omega⟩
   ·obtain ⟨q, hq⟩ : ∃ q, l[i - 1]? = some q := ⟨l[i - 1]'(by omega), by simp [show i - 1 < l.length by omega]⟩
    have g2 := q16 hq
    have hpw : IntKind.i64.wrap ((i : Int) - 1) = ((i - 1 : Nat) : Int) := by rw [q2d (by omega)]; omega
    have c2 := ev_k102 q.dot r.dot
    have hst := hst hv
    have hbad2 : q3h q.dot r.dot = false → ¬ q80 l := fun h hf => by
     have := hf.2 (i - 1) q r hq (by rw [show i - 1 + 1 = i by omega]; exact hr)
     rw [h] at this
     cases this
    have hst : q3h q.dot r.dot = true → _ := fun h => hst (fun q' _ hq' => by rw [hq] at hq'; cases hq'; exact h)
    generalize q3h q.dot r.dot = u at c2 hst hbad2
    (have hF := (aI (aI @e1 @g1) (aI @g2 (aI @hv @hpw))); refine q01 (k:=?_); clear hF)
    refine q00 [q47 q.dot, q47 r.dot] (he := c2) (k:=?_)
    cases u
    ·rw [q7v (hbad2 rfl)]
     (have hF := (aI @e1 @g1); refine q01 (k:=?_); clear hF)
     exact Fin.tmp' rfl rfl
    ·have hst := hst rfl
     (have hF := (aI @e1 @g1); refine q01 (k:=?_); clear hF)
     (refine Fin.nextW (i + 1) ?_ (have hW := @q09; q0g); (try dsimp only))
     exact ⟨⟨hlt, hst⟩, by omega⟩
  ·rw [q7v (hbad hv)]
   (have hF := (aI @e1 (aI @g1 @hv)); refine q01 (k:=?_); clear hF)
   exact Fin.tmp' rfl rfl
 ·rw [q4j (qqf (by omega) hI)]
  (have hF := @e1; refine q01 (k:=?_); clear hF)
  exact Fin.tmp' rfl rfl
theorem zdp (e : Ent) : q2b e = 0 ↔ q44 e.rep e.num = true ∧ q88 e.sku = true ∧ ¬ e.qty < 1 ∧ ¬ 1000000 < e.qty := by
 rw [qak]
 unfold q2b
 split
 ·constructor
  ·intro h; simp at h
  ·intro h; omega
 ·split
  ·constructor
   ·intro h; simp at h
   ·intro h; omega
  ·split
   ·rename_i h
    constructor
    ·intro h; simp at h
    ·intro h'; rw [h] at h'; simp at h'
   ·rename_i h
    split
    ·constructor
     ·intro h; simp at h
     ·intro h; omega
    ·constructor
     ·intro _; exact ⟨by omega, by simpa using h, by omega, by omega⟩
     ·intro _; rfl

def zjf : List SOp := [zO 2 (.box 26 (.tmp 0)),zO 3 (.box 41 (.tmp 1)),zO 4 (.assign (.const (.bool false)))]
instance : Live zjf := ⟨[0,1]⟩
def zje : List SOp := [zL 7 41 3,zO 8 (.call ⟨.value (.func 111),#[.tmp 7],#[41]⟩),zO 9 (.unOp .not 4 (.tmp 8))]
instance : Live zje := ⟨[2,3]⟩
def zjd : List SOp := [zO 4 (.assign (.const (.bool false)))]
instance : Live zjd := ⟨[]⟩
def zjc : List SOp := [zF 10 41 3 0,zL 11 3 10,zF 12 26 2 0,zL 13 23 12,zO 14 (.call ⟨.builtin .len,#[.tmp 13],#[23]⟩),zO 15 (.binOp .lss 3 (.tmp 11) (.tmp 14) 3),zM 16 15,⟨some 17,.fieldAddr 41 (.tmp 3) 1,some ((some 16),true)⟩,⟨some 18,.load 3 (.tmp 17),some ((some 16),true)⟩,⟨some 19,.fieldAddr 26 (.tmp 2) 0,some ((some 16),true)⟩,⟨some 20,.load 23 (.tmp 19),some ((some 16),true)⟩,⟨some 21,.fieldAddr 41 (.tmp 3) 0,some ((some 16),true)⟩,⟨some 22,.load 3 (.tmp 21),some ((some 16),true)⟩,⟨some 23,.indexAddr 23 (.tmp 20) (.tmp 22),some ((some 16),true)⟩,⟨some 24,.load 3 (.tmp 23),some ((some 16),true)⟩,⟨some 25,.binOp .leq 3 (.tmp 18) (.tmp 24) 3,some ((some 16),true)⟩,zO 26 (.pick (.tmp 16) (.tmp 25) (.const (.bool false)))]
instance : Live zjc := ⟨[2,3]⟩
def zjb : List SOp := [zO 4 (.assign (.const (.bool true)))]
instance : Live zjb := ⟨[]⟩
def zja : List SOp := [zO 5 (.assign (.const (.int .i64 0)))]
instance : Live zja := ⟨[2,3]⟩
def zj9 : List SOp := [zM 27 5,zF 28 26 2 1,zL 29 24 28,zO 30 (.call ⟨.builtin .len,#[.tmp 29],#[24]⟩),zO 31 (.binOp .lss 3 (.tmp 27) (.tmp 30) 3)]
instance : Live zj9 := ⟨[2,3,5]⟩
def zj8 : List SOp := [zF 34 26 2 1,zL 35 24 34,zM 36 5,zI 37 24 35 36,zL 38 127 37,zO 6 (.alloc 127),⟨none,.store 127 (.tmp 6) (.tmp 38),none⟩]
instance : Live zj8 := ⟨[2,3,5]⟩
def zj7 : List SOp := [zF 39 127 6 0,zL 40 3 39,zF 41 41 3 0,zL 42 3 41,zO 43 (.binOp .eql 3 (.tmp 40) (.tmp 42) 3),zM 44 43,⟨some 45,.fieldAddr 127 (.tmp 6) 1,some ((some 44),true)⟩,⟨some 46,.load 3 (.tmp 45),some ((some 44),true)⟩,⟨some 47,.fieldAddr 41 (.tmp 3) 1,some ((some 44),true)⟩,⟨some 48,.load 3 (.tmp 47),some ((some 44),true)⟩,⟨some 49,.binOp .leq 3 (.tmp 46) (.tmp 48) 3,some ((some 44),true)⟩,zO 50 (.pick (.tmp 44) (.tmp 49) (.const (.bool false))),zM 51 50,⟨some 52,.fieldAddr 41 (.tmp 3) 1,some ((some 51),true)⟩,⟨some 53,.load 3 (.tmp 52),some ((some 51),true)⟩,⟨some 54,.fieldAddr 127 (.tmp 6) 2,some ((some 51),true)⟩,⟨some 55,.load 3 (.tmp 54),some ((some 51),true)⟩,⟨some 56,.binOp .leq 3 (.tmp 53) (.tmp 55) 3,some ((some 51),true)⟩,zO 57 (.pick (.tmp 51) (.tmp 56) (.const (.bool false)))]
instance : Live zj7 := ⟨[2,3,5,6]⟩
def qw8 : List SOp := [zO 4 (.assign (.const (.bool true)))]
instance : Live qw8 := ⟨[]⟩
def qw7 : List SOp := [zM 32 5,zO 33 (.binOp .add 3 (.tmp 32) (.const (.int .i64 1)) 3),zG 5 33]
instance : Live qw7 := ⟨[2,3,5]⟩
def qw6 : List SOp := [zO 4 (.assign (.const (.bool false)))]
instance : Live qw6 := ⟨[]⟩
def qu0 : SC :=
 (.seq (.seq (.ops false zj9) (.cond (.tmp 31) .skip (.exit 0))) (.seq (.block 1 (.seq (.ops false zj8) (.seq (.ops false zj7) (.cond (.tmp 57) (.seq (.ops false qw8) .ret) .skip)))) (.ops false qw7)))
def t_k62 : SC :=
 (.seq (.ops false zjf) (.seq (.seq (.ops false zje) (.cond (.tmp 9) (.seq (.ops false zjd) .ret) .skip)) (.seq (.seq (.ops true zjc) (.cond (.tmp 26) (.seq (.ops false zjb) .ret) .skip)) (.seq (.seq (.ops false zja) (.block 0 (.loop qu0))) (.seq (.ops false qw6) .ret)))))
theorem it_k62 : FnIs Tryz.prog 62 58 [.tmp 4] t_k62 := ⟨Tryz.f62, _, Tryz.func62, rfl, rfl, rfl, rfl, by kernel_rfl⟩

def z3n : List SOp := [zO 2 (.box 91 (.tmp 0)),zO 3 (.box 62 (.tmp 1)),zO 4 (.assign (.const (.bool false)))]
instance : Live z3n := ⟨[0,1]⟩
def z3m : List SOp := [zF 5 91 2 0,zL 6 9 5,zO 7 (.binOp .eql 9 (.tmp 6) (.const (.string ⟨#[]⟩)) 9),zM 8 7,⟨some 9,.fieldAddr 91 (.tmp 2) 0,some ((some 8),false)⟩,⟨some 10,.load 9 (.tmp 9),some ((some 8),false)⟩,⟨some 11,.fieldAddr 62 (.tmp 3) 1,some ((some 8),false)⟩,⟨some 12,.load 9 (.tmp 11),some ((some 8),false)⟩,⟨some 13,.binOp .eql 9 (.tmp 10) (.tmp 12) 9,some ((some 8),false)⟩,zO 14 (.pick (.tmp 8) (.const (.bool true)) (.tmp 13)),zM 15 14,⟨some 16,.fieldAddr 91 (.tmp 2) 1,some ((some 15),true)⟩,⟨some 17,.load 26 (.tmp 16),some ((some 15),true)⟩,⟨some 18,.fieldAddr 62 (.tmp 3) 0,some ((some 15),true)⟩,⟨some 19,.load 41 (.tmp 18),some ((some 15),true)⟩,⟨some 20,.call ⟨.value (.func 51),#[.tmp 17,.tmp 19],#[26,41]⟩,some ((some 15),true)⟩,zO 21 (.pick (.tmp 15) (.tmp 20) (.const (.bool false))),zG 4 21]
instance : Live z3m := ⟨[2,3]⟩
def t_k141 : SC :=
 (.seq (.ops false z3n) (.seq (.ops false z3m) .ret))
theorem it_k141 : FnIs Tryz.prog 141 22 [.tmp 4] t_k141 := ⟨Tryz.f141, _, Tryz.func141, rfl, rfl, rfl, rfl, by kernel_rfl⟩

def z8l : List SOp := [zO 3 (.box 62 (.tmp 1)),zO 4 (.assign (.const (.int .i64 0)))]
instance : Live z8l := ⟨[0,1]⟩
def z8k : List SOp := [zO 5 (.assign (.const (.int .i64 0)))]
instance : Live z8k := ⟨[0,3]⟩
def z8j : List SOp := [zM 8 0,zO 9 (.call ⟨.builtin .len,#[.tmp 8],#[27]⟩),zO 10 (.move (.const (.int .i64 0)))]
instance : Live z8j := ⟨[0,3,5]⟩
def z8i : List SOp := [zO 11 (.binOp .lss 3 (.tmp 10) (.tmp 9) 3)]
instance : Live z8i := ⟨[3,5,8,9,10]⟩
def z8h : List SOp := [zI 12 27 8 10,zL 13 91 12,zO 7 (.alloc 91),⟨none,.store 91 (.tmp 7) (.tmp 13),none⟩]
instance : Live z8h := ⟨[3,5,8,9,10]⟩
def z8g : List SOp := [zL 14 91 7,zL 15 62 3,zO 16 (.call ⟨.value (.func 141),#[.tmp 14,.tmp 15],#[91,62]⟩)]
instance : Live z8g := ⟨[3,5,7,8,9,10]⟩
def z8f : List SOp := [zM 17 5,zO 18 (.binOp .add 3 (.tmp 17) (.const (.int .i64 1)) 3),zG 5 18]
instance : Live z8f := ⟨[3,5,8,9,10]⟩
def z8e : List SOp := [zO 19 (.binOp .add 3 (.tmp 10) (.const (.int .i64 1)) 3),zM 10 19]
instance : Live z8e := ⟨[3,5,8,9,10]⟩
def z8d : List SOp := [zM 20 5,zG 4 20]
instance : Live z8d := ⟨[5]⟩
def ql2 : SC :=
 (.seq (.ops false z8i) (.seq (.cond (.tmp 11) .skip (.exit 0)) (.seq (.block 1 (.seq (.ops false z8h) (.seq (.ops false z8g) (.cond (.tmp 16) (.ops false z8f) .skip)))) (.ops false z8e))))
def t_k110 : SC :=
 (.seq (.ops false z8l) (.seq (.ops false z8k) (.seq (.seq (.ops false z8j) (.block 0 (.loop ql2))) (.seq (.ops false z8d) .ret))))
theorem it_k110 : FnIs Tryz.prog 110 21 [.tmp 4] t_k110 := ⟨Tryz.f110, _, Tryz.func110, rfl, rfl, rfl, rfl, by kernel_rfl⟩

def z9e : List SOp := [zO 1 (.box 91 (.tmp 0)),zO 2 (.alloc 91)]
instance : Live z9e := ⟨[0]⟩
def z9d : List SOp := [zF 3 91 1 0,zL 4 9 3,zF 5 91 1 1,zL 6 26 5,zO 7 (.call ⟨.value (.func 64),#[.tmp 6],#[26]⟩),zO 8 (.build 91 #[(0,.tmp 4),(1,.tmp 7)]),⟨none,.store 91 (.tmp 2) (.tmp 8),none⟩]
instance : Live z9d := ⟨[1,2]⟩
def t_k108 : SC :=
 (.seq (.ops false z9e) (.seq (.ops true z9d) .ret))
theorem it_k108 : FnIs Tryz.prog 108 9 [.cell 2 91] t_k108 := ⟨Tryz.f108, _, Tryz.func108, rfl, rfl, rfl, rfl, by kernel_rfl⟩

theorem any_take {α : Type} {l : List α} {f : α → Bool} (i : Nat) (h : ∀ x ∈ l.take i, f x = false) (hi : l.length ≤ i) : l.any f = false := by
 rw [List.any_eq_false]
 intro x hx
 rw [List.take_of_length_le hi] at h
 simp [h x hx]
theorem q57 {α : Type} {l : List α} {q : α → Prop} {i : Nat} {x : α} (hx : l[i]? = some x) (h : ∀ y ∈ l.take i, q y) (hq : q x) : ∀ y ∈ l.take (i + 1), q y := by
 intro y hy
 rw [List.take_add_one, hx] at hy
 rcases List.mem_append.1 hy with hy | hy
 ·exact h y hy
 ·simp at hy; subst hy; exact hq
theorem ev_k62 (p : Pst) (d : Rn) (hw : wt p ≤ 900000000) : Ev (En Tryz.prog rfl).P 62 [q0h p, q47 d] (.ret (.bool (q1l p d))) := by
 refine Ev.of_body it_k62 (by simp) (Run.start ?_)
 have hwt : wt p = p.vec.length + p.cloud.length := rfl
 have e0 : (q04 p.vec).length = p.vec.length := q0e _
 have e9 : (q0c p.cloud).length = p.cloud.length := q1n _
 unfold t_k62 q0h q47
 have c1 := zr6 d
 generalize hv : q1l p d = v
 unfold q1l at hv
 (have hF := (aI @e0 @e9); refine q01 (k:=?_); clear hF)
 refine q00 [q47 d] (he := c1) (k:=?_)
 cases c0 : q44 d.1 d.2
 ·rw [c0, Bool.false_and] at hv
  subst hv
  (have hF := (aI @e0 @e9); refine q01 (k:=?_); clear hF)
  exact Fin.tmp' rfl rfl
 ·have hd : 0 ≤ d.1 ∧ d.1 < 16 := by simp [q44] at c0; omega
  rw [c0, Bool.true_and] at hv
  obtain ⟨r, hr⟩ : ∃ r : Nat, d.1 = r := ⟨d.1.toNat, by omega⟩
  cases c2 : (decide (d.1 < p.vec.length) && decide (d.2 ≤ q1y p.vec d.1.toNat))
  case' true =>
   rw [c2, Bool.true_or] at hv
   subst hv
   simp only [Bool.and_eq_true, decide_eq_true_eq] at c2
   have hrl : r < p.vec.length := by omega
   have e1 : (q04 p.vec)[r]? = some (.int .i64 (q1y p.vec r)) := q0r (by simp [q1y, hrl])
   have c3 := c2.2
   rw [hr, Int.toNat_natCast] at c3
   rw [hr]
   (have hF := (aI (aI @e0 @e9) (aI @e1 (aI @hrl @c3))); refine q01 (k:=?_); clear hF)
   exact Fin.tmp' rfl rfl
  case' false =>
   rw [c2, Bool.false_or] at hv
   rw [hr] at c2 ⊢
   rw [Int.toNat_natCast] at c2
   by_cases h1 : (r : Int) < (p.vec.length : Int)
   case' pos =>
    have hrl : r < p.vec.length := by omega
    have e1 : (q04 p.vec)[r]? = some (.int .i64 (q1y p.vec r)) := q0r (by simp [q1y, hrl])
    have c3 : ¬ d.2 ≤ q1y p.vec r := by simpa [h1] using c2
    (have hF := (aI (aI @e0 @e9) (aI @e1 (aI @h1 @c3))); refine q01 (k:=?_); clear hF)
   case' neg =>
    (have hF := (aI @e0 (aI @e9 @h1)); refine q01 (k:=?_); clear hF)
   all_goals
    refine Run.while (σ := Nat) (fun i => ⟨tms [(2, .ptr 2 0), (3, .ptr 3 0), (5, .int .i64 (i : Int))], mms [(2, .cells [.sl 1 (q04 p.vec), .sl 3 (q0c p.cloud)]), (3, .cells [.int .i64 r, .int .i64 d.2])]⟩)
     (fun i => i ≤ p.cloud.length ∧ ∀ s ∈ p.cloud.take i, ze8 d s = false) (fun i => p.cloud.length - i) 0 (have hW := True.intro; q0g) ⟨Nat.zero_le _, by simp⟩ ?_
    rintro i ⟨hi, hI⟩
    unfold qu0
    by_cases hlt : i < p.cloud.length
    ·obtain ⟨s, hs⟩ : ∃ s, p.cloud[i]? = some s := ⟨p.cloud[i], by simp [hlt]⟩
     have g1 : (q0c p.cloud)[i]? = some (.agg [.int .i64 s.1, .int .i64 s.2.1, .int .i64 s.2.2]) := q2o hs
     by_cases k1 : s.1 = r
     ·by_cases k2 : s.2.1 ≤ d.2
      ·by_cases k3 : d.2 ≤ s.2.2
       ·have hu : v = true := by
         rw [← hv, List.any_eq_true]
         exact ⟨s, List.mem_of_getElem? hs, by simp [ze8, hr, k1, k2, k3]⟩
        rw [hu]
        (have hF := (aI (aI @e0 (aI @e9 @g1)) (aI @k1 (aI @k2 @k3))); refine q01 (k:=?_); clear hF)
        exact Fin.tmp' rfl rfl
       ·(have hF := (aI (aI @e0 (aI @e9 @g1)) (aI @k1 (aI @k2 @k3))); refine q01 (k:=?_); clear hF)
        (refine Fin.nextW (i + 1) ?_ (have hW := True.intro; q0g); (try dsimp only))
        exact ⟨⟨hlt, q57 hs hI (by simp [ze8, hr, k1, k2, k3])⟩, by omega⟩
      ·(have hF := (aI (aI @e0 @e9) (aI @g1 (aI @k1 @k2))); refine q01 (k:=?_); clear hF)
       (refine Fin.nextW (i + 1) ?_ (have hW := True.intro; q0g); (try dsimp only))
       exact ⟨⟨hlt, q57 hs hI (by simp [ze8, hr, k1, k2])⟩, by omega⟩
     ·(have hF := (aI (aI @e0 @e9) (aI @g1 @k1)); refine q01 (k:=?_); clear hF)
      (refine Fin.nextW (i + 1) ?_ (have hW := True.intro; q0g); (try dsimp only))
      exact ⟨⟨hlt, q57 hs hI (by simp [ze8, hr, k1])⟩, by omega⟩
    ·have hu : v = false := by
      rw [← hv]
      exact any_take i hI (by omega)
     rw [hu]
     (have hF := (aI @e0 @e9); refine q01 (k:=?_); clear hF)
     exact Fin.tmp' rfl rfl
def qco (r : Rec) (e : Ent) : Bool := (decide (r.sku.size = 0) || decide (r.sku = e.sku)) && q1l r.past e.dot
theorem ev_k141 (r : Rec) (e : Ent) (hw : wt r.past ≤ 900000000) : Ev (En Tryz.prog rfl).P 141 [q4w r, qcn e] (.ret (.bool (qco r e))) := by
 refine Ev.of_body it_k141 (by simp) (Run.start ?_)
 unfold t_k141 q4w qcn qco
 have es := q9j r.sku
 have c1 := zbk r.past e.dot hw
 generalize q1l r.past e.dot = v at c1 ⊢
 by_cases h0 : r.sku.size = 0
 ·rw [decide_eq_true h0, Bool.true_or, Bool.true_and]
  rw [eq_true h0] at es
  (have hF := @es; refine q01 (k:=?_); clear hF)
  refine q00 [q0h r.past, q47 e.dot] (he := c1) (k:=?_)
  (have hF := True.intro; refine q01 (k:=?_); clear hF)
  exact Fin.tmp' rfl rfl
 ·rw [decide_eq_false h0, Bool.false_or]
  rw [eq_false h0] at es
  by_cases h1 : r.sku = e.sku
  ·rw [decide_eq_true h1, Bool.true_and]
   have es2 := es
   rw [h1] at es2
   (have hF := (aI @es (aI @h1 @es2)); refine q01 (k:=?_); clear hF)
   refine q00 [q0h r.past, q47 e.dot] (he := c1) (k:=?_)
   (have hF := True.intro; refine q01 (k:=?_); clear hF)
   exact Fin.tmp' rfl rfl
  ·rw [decide_eq_false h1, Bool.false_and]
   (have hF := (aI @es @h1); refine q01 (k:=?_); clear hF)
   exact Fin.tmp' rfl rfl
def q6a (l : List Rec) (e : Ent) : Nat := (l.filter fun r => qco r e).length
theorem qhf {l : List Rec} {i : Nat} {r : Rec} (h : l[i]? = some r) (e : Ent) : q6a (l.take (i + 1)) e = q6a (l.take i) e + if qco r e = true then 1 else 0 := by
 unfold q6a
 rw [List.take_add_one, h, List.filter_append]
 cases hc : qco r e <;> simp [hc]
theorem zbv (l : List Rec) (e : Ent) : q6a l e ≤ l.length := List.length_filter_le _ _
theorem ev_k110 (l : List Rec) (e : Ent) (hl : l.length ≤ 900000000) (hw : ∀ r ∈ l, wt r.past ≤ 900000000) : Ev (En Tryz.prog rfl).P 110 [.sl 3 (q08 l), qcn e] (.ret (.int .i64 (q6a l e))) := by
 refine Ev.of_body it_k110 (by simp) (Run.start ?_)
 unfold t_k110 qcn
 have e1 := q0j l
 have hS := qrk
 (have hF := @e1; refine q01 (k:=?_); clear hF)
 refine Run.while (σ := Nat) (fun i => ⟨tms [(3, .ptr 3 0), (5, .int .i64 (q6a (l.take i) e : Nat)), (8, .sl 3 (q08 l)), (9, .int .i64 l.length), (10, .int .i64 (i : Int))], mms [(3, .cells [.int .i64 e.rep, .int .i64 e.num, .str e.sku, .int .i64 e.qty])]⟩)
  (fun i => i ≤ l.length) (fun i => l.length - i) 0 (have hW := @q02; q0g) (Nat.zero_le _) ?_
 intro i hi
 unfold ql2
 by_cases hlt : i < l.length
 ·obtain ⟨r, hr⟩ : ∃ r, l[i]? = some r := ⟨l[i], by simp [hlt]⟩
  have g1 := q0t hr
  have c1 := ev_k141 r e (hw r (List.mem_of_getElem? hr))
  have hn := qhf hr e
  have hle := zbv (l.take i) e
  have hlt' : (l.take i).length ≤ l.length := by rw [List.length_take]; omega
  generalize q6a (l.take i) e = n at hn hle ⊢
  cases hc : qco r e <;> rw [hc] at hn c1 <;> simp only [if_true, Bool.false_eq_true, if_false] at hn
  ·(have hF := (aI @e1 @g1); refine q01 (k:=?_); clear hF)
   refine q00 [q4w r, qcn e] (he := c1) (k:=?_)
   (have hF := (aI @e1 @g1); refine q01 (k:=?_); clear hF)
   (refine Fin.nextW (i + 1) ?_ (have hW := (aI @q02 @hn); q0g); (try dsimp only))
   omega
  ·(have hF := (aI @e1 @g1); refine q01 (k:=?_); clear hF)
   refine q00 [q4w r, qcn e] (he := c1) (k:=?_)
   (have hF := (aI @e1 @g1); refine q01 (k:=?_); clear hF)
   (refine Fin.nextW (i + 1) ?_ (have hW := (aI @q02 @hn); q0g); (try dsimp only))
   omega
 ·have : l.take i = l := List.take_of_length_le (by omega)
  rw [this]
  (have hF := @e1; refine q01 (k:=?_); clear hF)
  exact Fin.tmp' rfl rfl
theorem qss (r : Rec) (hw : wt r.past ≤ 50000000) : Ev (En Tryz.prog rfl).P 108 [q4w r] (.ret (q4w ⟨r.sku, q1g r.past⟩)) := by
 refine Ev.of_body it_k108 (by simp) (Run.start ?_)
 unfold t_k108 q4w
 have c1 := qgw r.past hw
 have hS := qrk
 (have hF := True.intro; refine q01 (k:=?_); clear hF)
 refine q00 [q0h r.past] (he := c1) (k:=?_)
 unfold q0h
 (have hF := True.intro; refine q01 (k:=?_); clear hF)
 exact Fin.all rfl (by simp [q0k, AVal.stb, q03, q05, fzc, q55]) rfl

def z9c : List SOp := [zO 2 (.assign (.const (.slice none 0 0))),zO 3 (.assign (.const (.int .i64 0)))]
instance : Live z9c := ⟨[0]⟩
def z9b : List SOp := [zM 10 0,zO 11 (.call ⟨.value (.func 55),#[.tmp 10],#[27]⟩),zO 12 (.binOp .neq 32 (.tmp 11) (.const (.int .i64 0)) 32)]
instance : Live z9b := ⟨[0]⟩
def z9a : List SOp := [zO 2 (.assign (.const (.slice none 0 0))),zO 3 (.assign (.const (.int .i64 1)))]
instance : Live z9a := ⟨[]⟩
def z99 : List SOp := [zO 4 (.alloc 26)]
instance : Live z99 := ⟨[0]⟩
def z98 : List SOp := [zO 5 (.assign (.const (.slice none 0 0)))]
instance : Live z98 := ⟨[0,4]⟩
def z97 : List SOp := [zO 6 (.assign (.const (.int .i64 0)))]
instance : Live z97 := ⟨[0,4,5]⟩
def z96 : List SOp := [zM 13 6,zM 14 0,zO 15 (.call ⟨.builtin .len,#[.tmp 14],#[27]⟩),zO 16 (.binOp .lss 3 (.tmp 13) (.tmp 15) 3)]
instance : Live z96 := ⟨[0,4,5,6]⟩
def z95 : List SOp := [zM 17 6,zG 7 17]
instance : Live z95 := ⟨[0,4,5,6]⟩
def z94 : List SOp := [zO 8 (.assign (.const (.slice none 0 0)))]
instance : Live z94 := ⟨[0,4,5,6,7]⟩
def qpo : List SOp := [zM 18 7,zM 19 0,zO 20 (.call ⟨.builtin .len,#[.tmp 19],#[27]⟩),zO 21 (.binOp .lss 3 (.tmp 18) (.tmp 20) 3),zM 22 21,⟨some 23,.move (.tmp 0),some ((some 22),true)⟩,⟨some 24,.move (.tmp 7),some ((some 22),true)⟩,⟨some 25,.indexAddr 27 (.tmp 23) (.tmp 24),some ((some 22),true)⟩,⟨some 26,.fieldAddr 91 (.tmp 25) 0,some ((some 22),true)⟩,⟨some 27,.load 9 (.tmp 26),some ((some 22),true)⟩,⟨some 28,.move (.tmp 0),some ((some 22),true)⟩,⟨some 29,.move (.tmp 6),some ((some 22),true)⟩,⟨some 30,.indexAddr 27 (.tmp 28) (.tmp 29),some ((some 22),true)⟩,⟨some 31,.fieldAddr 91 (.tmp 30) 0,some ((some 22),true)⟩,⟨some 32,.load 9 (.tmp 31),some ((some 22),true)⟩,⟨some 33,.binOp .eql 9 (.tmp 27) (.tmp 32) 9,some ((some 22),true)⟩,zO 34 (.pick (.tmp 22) (.tmp 33) (.const (.bool false)))]
instance : Live qpo := ⟨[0,4,5,6,7,8]⟩
def qpn : List SOp := [zM 35 8,zM 36 0,zM 37 7,zI 38 27 36 37,zF 39 91 38 1,zL 40 26 39,zO 41 (.buildSlice 116 1 #[(0,.tmp 40)]),zO 42 (.call ⟨.builtin .append,#[.tmp 35,.tmp 41],#[116,116]⟩),zG 8 42]
instance : Live qpn := ⟨[0,4,5,6,7,8]⟩
def qpm : List SOp := [zM 43 7,zO 44 (.binOp .add 3 (.tmp 43) (.const (.int .i64 1)) 3),zG 7 44]
instance : Live qpm := ⟨[0,4,5,6,7,8]⟩
def qpl : List SOp := [zM 45 0,zM 46 6,zI 47 27 45 46,zF 48 91 47 0,zL 49 9 48,zM 50 8,zO 51 (.call ⟨.value (.func 49),#[.tmp 50],#[116]⟩),zO 52 (.build 91 #[(0,.tmp 49),(1,.tmp 51)]),zO 9 (.alloc 91),⟨none,.store 91 (.tmp 9) (.tmp 52),none⟩]
instance : Live qpl := ⟨[0,4,5,6,7,8]⟩
def qpk : List SOp := [zF 53 91 9 0,zL 54 9 53,zO 55 (.binOp .eql 9 (.tmp 54) (.const (.string ⟨#[]⟩)) 9)]
instance : Live qpk := ⟨[0,4,5,7,9]⟩
def qpj : List SOp := [zF 56 91 9 1,zL 57 26 56,⟨none,.store 26 (.tmp 4) (.tmp 57),none⟩]
instance : Live qpj := ⟨[0,4,5,7,9]⟩
def qpi : List SOp := [zF 58 91 9 1,zL 59 26 58,zL 60 26 4,zO 61 (.call ⟨.value (.func 140),#[.tmp 59,.tmp 60],#[26,26]⟩),zF 62 91 9 1,⟨none,.store 26 (.tmp 62) (.tmp 61),none⟩]
instance : Live qpi := ⟨[0,4,5,7,9]⟩
def qph : List SOp := [zF 63 91 9 1,zL 64 26 63,zO 65 (.call ⟨.value (.func 92),#[.tmp 64],#[26]⟩),zO 66 (.unOp .not 4 (.tmp 65))]
instance : Live qph := ⟨[0,4,5,7,9]⟩
def qpg : List SOp := [zM 67 5,zL 68 91 9,zO 69 (.buildSlice 27 1 #[(0,.tmp 68)]),zO 70 (.call ⟨.builtin .append,#[.tmp 67,.tmp 69],#[27,27]⟩),zG 5 70]
instance : Live qpg := ⟨[0,4,5,7,9]⟩
def qpf : List SOp := [zM 71 7,zG 6 71]
instance : Live qpf := ⟨[0,4,5,7]⟩
def qpe : List SOp := [zM 72 5,zO 73 (.call ⟨.builtin .len,#[.tmp 72],#[27]⟩),zO 74 (.binOp .gtr 3 (.tmp 73) (.const (.int .i64 0)) 3),zM 75 74,⟨some 76,.move (.tmp 5),some ((some 75),true)⟩,⟨some 77,.indexAddr 27 (.tmp 76) (.const (.int .i64 0)),some ((some 75),true)⟩,⟨some 78,.fieldAddr 91 (.tmp 77) 0,some ((some 75),true)⟩,⟨some 79,.load 9 (.tmp 78),some ((some 75),true)⟩,⟨some 80,.binOp .eql 9 (.tmp 79) (.const (.string ⟨#[]⟩)) 9,some ((some 75),true)⟩,zO 81 (.pick (.tmp 75) (.tmp 80) (.const (.bool false)))]
instance : Live qpe := ⟨[5]⟩
def qpd : List SOp := [zM 82 5,zM 83 5,zO 84 (.indexAddr 27 (.tmp 83) (.const (.int .i64 0))),zL 85 91 84,zO 86 (.call ⟨.value (.func 108),#[.tmp 85],#[91]⟩),zO 87 (.indexAddr 27 (.tmp 82) (.const (.int .i64 0))),⟨none,.store 91 (.tmp 87) (.tmp 86),none⟩]
instance : Live qpd := ⟨[5]⟩
def qpc : List SOp := [zM 88 5,zG 2 88,zO 3 (.assign (.const (.int .i64 0)))]
instance : Live qpc := ⟨[5]⟩
def ql3 : SC :=
 (.seq (.seq (.ops true qpo) (.cond (.tmp 34) .skip (.exit 2))) (.block 3 (.seq (.ops false qpn) (.ops false qpm))))
def ql4 : SC :=
 (.seq (.seq (.ops false z96) (.cond (.tmp 16) .skip (.exit 0))) (.block 1 (.seq (.ops false z95) (.seq (.ops false z94) (.seq (.block 2 (.loop ql3)) (.seq (.ops true qpl) (.seq (.seq (.ops false qpk) (.cond (.tmp 55) (.ops false qpj) (.ops false qpi))) (.seq (.seq (.ops false qph) (.cond (.tmp 66) (.ops false qpg) .skip)) (.ops false qpf)))))))))
def t_k109 : SC :=
 (.seq (.ops false z9c) (.seq (.seq (.ops false z9b) (.cond (.tmp 12) (.seq (.ops false z9a) .ret) .skip)) (.seq (.ops false z99) (.seq (.ops false z98) (.seq (.seq (.ops false z97) (.block 0 (.loop ql4))) (.seq (.seq (.ops false qpe) (.cond (.tmp 81) (.ops false qpd) .skip)) (.seq (.ops false qpc) .ret)))))))
theorem it_k109 : FnIs Tryz.prog 109 89 [.tmp 2, .tmp 3] t_k109 := ⟨Tryz.f109, _, Tryz.func109, rfl, rfl, rfl, rfl, by kernel_rfl⟩

def q12 (s : ByteArray) (r : Rec) : Bool := decide (r.sku = s)
def zd8 (l : List Rec) : List Rec := match l with | [] => [] | r :: t => l.takeWhile (q12 r.sku)
def q2y (l : List Rec) : Pst := q1e ((zd8 l).map (·.past))
def zax (all : Pst) (s : ByteArray) (p : Pst) : Pst := if s.size = 0 then p else q3o p all
def ze3 (all : Pst) (s : ByteArray) (p : Pst) : Pst := if s.size = 0 then p else all
def qjn (s : ByteArray) (p : Pst) : List Rec := if q2x p = 0 then [] else [⟨s, p⟩]
def q60 : Nat → List Rec → Pst → List Rec
 | 0, _, _ => []
 | n + 1, [], _ => []
 | n + 1, r :: l, all => qjn r.sku (zax all r.sku (q2y (r :: l))) ++ q60 n ((r :: l).dropWhile (q12 r.sku)) (ze3 all r.sku (q2y (r :: l)))
def qiq : List Rec → List Rec
 | [] => []
 | r :: l => if r.sku.size = 0 then ⟨r.sku, q1g r.past⟩ :: l else r :: l
def q9t (l : List Rec) : List Rec := qiq (q60 l.length l ⟨[], []⟩)
theorem q6p {α : Type} {p : α → Bool} : ∀ {l : List α} {m : Nat}, (∀ x ∈ l.take m, p x = true) → (∀ x, l[m]? = some x → p x = false) → l.takeWhile p = l.take m ∧ l.dropWhile p = l.drop m
 | [], m, _, _ => by simp
 | x :: l, 0, _, h => by
  have := h x rfl
  simp [List.takeWhile, List.dropWhile, this]
 | x :: l, m + 1, h, h' => by
  have hx : p x = true := h x (by simp)
  have ih := q6p (l := l) (m := m) (fun y hy => h y (by simp [hy])) (fun y hy => h' y (by simpa using hy))
  simp [List.takeWhile, List.dropWhile, hx, ih]
theorem q7l {l m : List Nat} (h : l.Sublist m) : l.sum ≤ m.sum := by
 induction h with
 | slnil => exact Nat.le_refl _
 | cons a h ih => simp only [List.sum_cons]; omega
 | cons_cons a h ih => simp only [List.sum_cons]; omega
theorem wts_le {l m : List Rec} (h : l.Sublist m) : ((l.map (·.past)).map wt).sum ≤ q4y m := by
 have h1 : ∀ l : List Rec, ((l.map (·.past)).map wt).sum ≤ q4y l := by
  intro l
  induction l with
  | nil => exact Nat.le_refl _
  | cons r l ih => unfold q4y at *; simp only [List.map_cons, List.sum_cons, wtK] at *; omega
 exact Nat.le_trans (h1 l) (q7l (h.map wtK))
theorem qsz (l : List Pst) (v : List Int) (c : List Sn) : q1o l ++ [.agg [.sl 1 (q04 v), .sl 3 (q0c c)]] = q1o (l ++ [⟨v, c⟩]) := by simp [q1o, q0h]
theorem Wk.give {n u k e sz : Nat} {xs : List AVal} {l1 : List (Nat × AVal)} {m1 : List (Nat × ABlk)} (hn : qrg (fun j => j == k) l1) (hb : qt8 (fun j => j == k) m1) (h0 : mms m1 k = none) (hx : q0k xs = true) :
 Wk n ⟨tms ((u, .os k e) :: l1), mms ((k, .arr e sz xs) :: m1)⟩ ⟨tms ((u, .sl sz xs) :: l1), mms m1⟩ := by
 intro B G a w hR
 have hM1 : (fun j => if (j == k) = true then none else mms ((k, .arr e sz xs) :: m1) j) = mms m1 := by
  funext j
  by_cases hj : j = k
  ·subst hj; simp [h0]
  ·simp [hj, mms, q19]
 have hblk : ∀ {l : List (Nat × ABlk)}, qt8 (fun j => j == k) l → ∀ j blk, mms l j = some blk → blk.no (fun j => j == k) = true := by
  intro l
  induction l with
  | nil => intro _ j blk h; cases h
  | cons p l ih =>
   obtain ⟨q, v⟩ := p
   intro h j blk hj
   simp only [mms] at hj
   by_cases hjq : j = q
   ·subst hjq; rw [q0b] at hj; cases hj; exact h.1
   ·rw [q19 _ _ hjq] at hj; exact ih h.2 j blk hj
 have htm := zen (qjl hn)
 refine ⟨G.without fun j => j == k, ⟨hR.size, hR.defers, fun t => ?_, fun j blk hj => ?_, fun b hb => ⟨(hR.fr b hb).1, q13 (hR.fr b hb).2⟩, fun b hb => hR.ol b fun hn => hb (q13 hn)⟩,
  ⟨⟨rfl, Nat.le_refl _⟩, rfl, rfl, Nat.le_refl _, fun b _ ho => ⟨rfl, q13 ho⟩⟩⟩
 ·have hv := hR.temps t
  simp only [tms] at hv ⊢
  rw [← hM1]
  by_cases ht : t = u
  ·subst ht
   rw [q0b] at hv ⊢
   have h1 := qsk (K := fun j => j == k) hR.mem hv
   have h2 : fz (fun j => j == k) (mms ((k, .arr e sz xs) :: m1)) (.os k e) = .sl sz xs := by
    simp [fz, fzc, mms, q0b]
   rw [h2] at h1
   exact h1.stable (fun b _ hb ho => ⟨rfl, hb, ho⟩) hx
  ·rw [q19 _ _ ht] at hv ⊢
   exact hv.drop (htm t)
 ·change mms m1 j = some blk at hj
  have hjk : j ≠ k := fun h => by subst h; rw [h0] at hj; cases hj
  have hj' : mms ((k, .arr e sz xs) :: m1) j = some blk := by simp only [mms]; rw [q19 _ _ hjk]; exact hj
  have h0' := hR.mem j blk hj'
  have hno := hblk hb j blk hj
  have hK' : (j == k) = false := by simp [hjk]
  rw [← hM1]
  cases blk with
  | cells cs =>
   obtain ⟨c, el, b1, b2, b3, b4, b5⟩ := h0'
   refine ⟨c, el, by simp [Gh.without, b1, OKey.of, hjk], b2, b3, b4, fun i x hx => ?_⟩
   obtain ⟨u, hu, hr⟩ := b5 i x hx
   exact ⟨u, hu, hr.drop hK' (List.all_eq_true.1 hno x (List.mem_of_getElem? hx))⟩
  | arr e sz xs =>
   rcases h0' with h | ⟨b, o, cap, c, el, h1, h2, h3, h4, h5, h6, h7, h7', h8⟩
   ·exact .inl h
   ·exact .inr ⟨b, o, cap, c, el, h1, h2, by simp [Gh.without, h3, OKey.of, hjk], h4, h5, h6, h7, h7', fun n y hy => let ⟨u, hu, hr⟩ := h8 n y hy; ⟨u, hu, hr.drop (List.all_eq_true.1 hno y (List.mem_of_getElem? hy))⟩⟩
  | dead => trivial
  | map es =>
   obtain ⟨es', clock, b1, b2, b3, b4, b5⟩ := h0'
   refine ⟨es', clock, by simp [Gh.without, b1, OKey.of, hjk], b2, b3, b4, fun i p hp => ?_⟩
   obtain ⟨q, hq, r1, r2⟩ := b5 i p hp
   have := List.all_eq_true.1 hno p (List.mem_of_getElem? hp)
   rw [Bool.and_eq_true] at this
   exact ⟨q, hq, r1.drop this.1, r2.drop this.2⟩
structure FoS where
 i : Nat
 all : Pst
 out : List Rec
theorem qqk (l : List Rec) (W : Nat) (hW : W ≤ 5000000) (hl : l.length ≤ 5000000) (hwr : ∀ r ∈ l, wt r.past ≤ W) (hg0 : ∀ (i m : Nat) (s : ByteArray), (∀ x ∈ (l.drop i).take m, q12 s x = true) → ((((l.drop i).take m).map (·.past)).map wt).sum ≤ W) : Ev (En Tryz.prog rfl).P 109 [.sl 3 (q08 l)] (.ret (.tup [.sl 3 (q08 (if q34 l = true then q9t l else [])), .int .i64 (if q34 l = true then 0 else 1)])) := by
 refine Ev.of_body it_k109 (by simp) (Run.start ?_)
 unfold t_k109
 have e1 := q0j l
 have hS := qrk
 have c1 := q2k l (by omega) (fun r hr => by have := hwr r hr; omega)
 (have hF := @e1; refine q01 (k:=?_); clear hF)
 refine q00 [.sl 3 (q08 l)] (he := c1) (k:=?_)
 by_cases hform : q34 l = true
 case' neg =>
  simp only [if_neg hform]
  (have hF := @e1; refine q01 (k:=?_); clear hF)
  exact Fin.two (x := .nil) (x' := .int .i64 1) rfl rfl rfl rfl (.inr ⟨rfl, 3, rfl⟩) (.inl rfl)
 case' pos =>
  simp only [if_pos hform]
  have hfk : q9t l = qiq (q60 l.length l ⟨[], []⟩) := rfl
  have hR0 : [] ++ q60 l.length (l.drop 0) ⟨[], []⟩ = q60 l.length l ⟨[], []⟩ := rfl
  generalize q60 l.length l ⟨[], []⟩ = R at hfk hR0
  (have hF := @e1; refine q01 (k:=?_); clear hF)
  refine Run.wk (Wk.trans (Wk.own_nil 5 70 3 rfl rfl) (Wk.trans (Wk.own_cells (k := 4) (cs' := [.own 1 [], .own 3 []]) rfl rfl ?_) (Wk.freeze (k := 4) (cs := [.own 1 [], .own 3 []]) rfl))) ?_
  ·intro i x y hx hy
   match i with
   | 0 => simp at hx hy; subst hx; subst hy; exact .inr ⟨rfl, 1, rfl⟩
   | 1 => simp at hx hy; subst hx; subst hy; exact .inr ⟨rfl, 3, rfl⟩
   | i + 2 => simp at hx
  refine Run.while (σ := FoS) (fun z => ⟨tms [(0, .sl 3 (q08 l)), (4, .ptr 4 0), (5, .os 70 z.out.length), (6, .int .i64 (z.i : Int))], mms [(4, .cells [.sl 1 (q04 z.all.vec), .sl 3 (q0c z.all.cloud)]), (70, .arr z.out.length 3 (q08 z.out))]⟩)
   (fun z => z.i ≤ l.length ∧ z.out.length ≤ z.i ∧ wt z.all ≤ 16 + W ∧ (∃ n, l.length - z.i ≤ n ∧ z.out ++ q60 n (l.drop z.i) z.all = R) ∧ ∀ r ∈ z.out, wt r.past ≤ 64 + 2 * W) (fun z => l.length - z.i) ⟨0, ⟨[], []⟩, []⟩ (have hW := @q02; q0g) ⟨Nat.zero_le _, Nat.le_refl _, Nat.zero_le _, ⟨l.length, Nat.le_refl _, hR0⟩, fun r hr => absurd hr (by simp)⟩ ?_
  rintro ⟨i, all, out⟩ ⟨hi, ho, ha, ⟨n, hn, hf⟩, hwo⟩
  dsimp only at *
  unfold ql4
  have e2 := q0j out
  by_cases hlt : i < l.length
  ·obtain ⟨r, hr⟩ : ∃ r, l[i]? = some r := ⟨l[i], by simp [hlt]⟩
   have g1 := q0t hr
   (have hF := (aI @e1 (aI @e2 @g1)); refine q01 (k:=?_); clear hF)
   refine Run.wk (Wk.own_nil 8 42 2 rfl rfl) ?_
   refine Run.while (σ := Nat) (fun m => ⟨tms [(0, .sl 3 (q08 l)), (4, .ptr 4 0), (5, .os 70 out.length), (6, .int .i64 (i : Int)), (7, .int .i64 ((i + m : Nat) : Int)), (8, .os 42 m)], mms [(4, .cells [.sl 1 (q04 all.vec), .sl 3 (q0c all.cloud)]), (42, .arr m 2 (q1o (((l.drop i).take m).map (·.past)))), (70, .arr out.length 3 (q08 out))]⟩)
    (fun m => i + m ≤ l.length ∧ ∀ x ∈ (l.drop i).take m, q12 r.sku x = true) (fun m => l.length - i - m) 0 (have hW := @q02; q0g) ⟨by omega, fun x hx => absurd hx (by simp)⟩ ?_
   rintro m ⟨hm, hg⟩
   unfold ql3
   have hdr : (l.drop i)[m]? = l[i + m]? := by rw [List.getElem?_drop]
   have hrd : l.drop i = r :: l.drop (i + 1) := by
    have := List.drop_eq_getElem_cons hlt
    rw [this]
    simp only [List.getElem?_eq_getElem hlt, Option.some.injEq] at hr
    rw [hr]
   have hpl : (((l.drop i).take m).map (·.past)).length = m := by simp; omega
   have e3 := qas (((l.drop i).take m).map (·.past))
   rw [hpl] at e3
   have hwp := hg0 i m r.sku hg
   by_cases hex : ∃ q, l[i + m]? = some q ∧ q.sku = r.sku
   ·obtain ⟨q, hq, hsk⟩ := hex
    have hjl : i + m < l.length := by
     rcases Nat.lt_or_ge (i + m) l.length with h | h
     ·exact h
     ·rw [List.getElem?_eq_none h] at hq; cases hq
    have g2 := q0t hq
    have hsn : ((l.drop i).take (m + 1)).map (·.past) = ((l.drop i).take m).map (·.past) ++ [q.past] := by
     rw [List.take_add_one, hdr, hq]
     simp
    (have hF := (aI (aI @e1 @e3) (aI @g1 (aI @g2 @hsk))); refine q01 (k:=?_); clear hF)
    (refine Fin.nextW (m + 1) ?_ (have hW := (aI @q02 (aI @hsn @qsz)); q0g); (try dsimp only))
    refine ⟨⟨hjl, q57 (by rw [hdr, hq]) hg (by simp [q12, hsk])⟩, by omega⟩
   refine Run.wk (Wk.trans (Wk.toL [(8, .os 42 m), (0, .sl 3 (q08 l)), (4, .ptr 4 0), (5, .os 70 out.length), (6, .int .i64 (i : Int)), (7, .int .i64 ((i + m : Nat) : Int))] [(42, .arr m 2 (q1o (((l.drop i).take m).map (·.past)))), (4, .cells [.sl 1 (q04 all.vec), .sl 3 (q0c all.cloud)]), (70, .arr out.length 3 (q08 out))] ⟨rfl, rfl, rfl, rfl, rfl, rfl, trivial⟩ ⟨rfl, rfl, rfl, trivial⟩ ⟨rfl, q1m (q02 l), rfl, rfl, rfl, rfl, trivial⟩ ⟨qhg (q0d _), qax _ (by simp [q0k, AVal.stb, q03, q05]), qhg (q02 _), trivial⟩) (Wk.give ⟨q1m (q02 l), rfl, rfl, rfl, rfl, trivial⟩ ⟨qax _ (by simp [q0k, AVal.stb, q03, q05]), qhg (q02 _), trivial⟩ rfl (q0d _))) ?_
   have htw := q6p (p := q12 r.sku) hg (fun x hx => by rw [hdr] at hx; exact decide_eq_false fun h => hex ⟨x, hx, h⟩)
   by_cases hjl : i + m < l.length
   case' pos =>
    obtain ⟨q, hq⟩ : ∃ q, l[i + m]? = some q := ⟨l[i + m], by simp [hjl]⟩
    have g2 := q0t hq
    have hsk : ¬ q.sku = r.sku := fun h => hex ⟨q, hq, h⟩
    (have hF := (aI (aI @e1 @e3) (aI @g1 (aI @g2 @hsk))); refine q01 (k:=?_); clear hF)
   case' neg =>
    (have hF := (aI @e1 (aI @e3 @g1)); refine q01 (k:=?_); clear hF)
   all_goals
    have hm1 : 1 ≤ m := by
     rcases Nat.eq_zero_or_pos m with h0 | h0
     ·exfalso
      have := htw.1
      rw [h0, hrd] at this
      simp [List.takeWhile, q12] at this
     ·exact h0
    have hjg : q2y (r :: l.drop (i + 1)) = q1e (((l.drop i).take m).map (·.past)) := by
     unfold q2y zd8
     rw [← hrd]
     have h2 := htw.1
     rw [hrd] at h2 ⊢
     simp only
     rw [h2]
    obtain ⟨n', rfl⟩ : ∃ n', n = n' + 1 := ⟨n - 1, by omega⟩
    rw [hrd] at hf
    unfold q60 at hf
    rw [hjg, ← hrd, htw.2, List.drop_drop] at hf
    have hjw := q59 (((l.drop i).take m).map (·.past))
    generalize ((l.drop i).take m).map (·.past) = ps at *
    have c2 := zqx ps (by omega) (by omega)
    refine q00 [.sl 2 (q1o ps)] (he := c2) (k:=?_)
    generalize q1e ps = p at *
    unfold q0h
    have es := q9j r.sku
    by_cases hz : r.sku.size = 0
    ·have hng : zax all r.sku p = p := if_pos hz
     have hal : ze3 all r.sku p = p := if_pos hz
     rw [hng, hal] at hf
     rw [eq_true hz] at es
     have c3 := qql p (by omega)
     (have hF := (aI @e2 @es); refine q01 (k:=?_); clear hF)
     refine q00 [q0h p] (he := c3) (k:=?_)
     by_cases hs : q2x p = 0
     ·have hog : qjn r.sku p = [] := if_pos hs
      rw [hog, List.nil_append] at hf
      rw [decide_eq_true hs]
      (have hF := @e2; refine q01 (k:=?_); clear hF)
      (refine Fin.nextW (⟨i + m, p, out⟩) ?_ (have hW := @q02; q0g); (try dsimp only))
      exact ⟨⟨hm, by omega, by omega, ⟨n', by omega, hf⟩, hwo⟩, by omega⟩
     ·have hog : qjn r.sku p = [⟨r.sku, p⟩] := if_neg hs
      rw [hog, ← List.append_assoc] at hf
      rw [decide_eq_false hs]
      (have hF := @e2; refine q01 (k:=?_); clear hF)
      (refine Fin.nextW (⟨i + m, p, out ++ [⟨r.sku, p⟩]⟩) ?_ (have hW := (aI @q02 @q2v); q0g); (try dsimp only))
      refine ⟨⟨hm, by simp; omega, by omega, ⟨n', by omega, hf⟩, fun x hx => ?_⟩, by omega⟩
      rcases List.mem_append.1 hx with hx | hx
      ·exact hwo x hx
      ·simp at hx; subst hx; dsimp only; omega
    ·have hng : zax all r.sku p = q3o p all := if_neg hz
     have hal : ze3 all r.sku p = all := if_neg hz
     rw [hng, hal] at hf
     rw [eq_false hz] at es
     have c3 := ev_k140 p all (by omega) (by omega)
     have hmw := qep p all
     (have hF := (aI @e2 @es); refine q01 (k:=?_); clear hF)
     refine q00 [q0h p, q0h all] (he := c3) (k:=?_)
     generalize q3o p all = p2 at *
     have c4 := qql p2 (by omega)
     unfold q0h
     (have hF := @e2; refine q01 (k:=?_); clear hF)
     refine q00 [q0h p2] (he := c4) (k:=?_)
     by_cases hs : q2x p2 = 0
     ·have hog : qjn r.sku p2 = [] := if_pos hs
      rw [hog, List.nil_append] at hf
      rw [decide_eq_true hs]
      (have hF := @e2; refine q01 (k:=?_); clear hF)
      (refine Fin.nextW (⟨i + m, all, out⟩) ?_ (have hW := @q02; q0g); (try dsimp only))
      exact ⟨⟨hm, by omega, by omega, ⟨n', by omega, hf⟩, hwo⟩, by omega⟩
     ·have hog : qjn r.sku p2 = [⟨r.sku, p2⟩] := if_neg hs
      rw [hog, ← List.append_assoc] at hf
      rw [decide_eq_false hs]
      (have hF := @e2; refine q01 (k:=?_); clear hF)
      (refine Fin.nextW (⟨i + m, all, out ++ [⟨r.sku, p2⟩]⟩) ?_ (have hW := (aI @q02 @q2v); q0g); (try dsimp only))
      refine ⟨⟨hm, by simp; omega, by omega, ⟨n', by omega, hf⟩, fun x hx => ?_⟩, by omega⟩
      rcases List.mem_append.1 hx with hx | hx
      ·exact hwo x hx
      ·simp at hx; subst hx; dsimp only; omega
  ·have hfo : out = R := by
    rw [List.drop_eq_nil_of_le (by omega)] at hf
    rw [← hf]
    cases n <;> simp [q60]
   rw [hfk, ← hfo]
   cases out with
   | nil =>
    (have hF := (aI @e1 @e2); refine q01 (k:=?_); clear hF)
    exact Fin.two (x := .sl 3 (q08 [])) rfl rfl rfl rfl (.inl rfl) (.inl rfl)
   | cons x out =>
    have es := q9j x.sku
    have g1 : (q08 (x :: out))[0]? = some (.agg [.str x.sku, .sl 1 (q04 x.past.vec), .sl 3 (q0c x.past.cloud)]) := rfl
    by_cases hz : x.sku.size = 0
    ·rw [show qiq (x :: out) = ⟨x.sku, q1g x.past⟩ :: out from if_pos hz]
     rw [eq_true hz] at es
     have c4 := qss x (by have := hwo x (by simp); omega)
     (have hF := (aI @e2 (aI @es @g1)); refine q01 (k:=?_); clear hF)
     refine q00 [q4w x] (he := c4) (k:=?_)
     (have hF := (aI @e2 (aI @es @g1)); refine q01 (k:=?_); clear hF)
     exact Fin.two (x := .sl 3 (q08 (⟨x.sku, q1g x.past⟩ :: out))) (by simp [fz, fzc, q55, upd, tms, mms, q08, q4w]) (q02 _) rfl rfl (.inl rfl) (.inl rfl)
    ·rw [show qiq (x :: out) = x :: out from if_neg hz]
     rw [eq_false hz] at es
     (have hF := (aI @e2 (aI @es @g1)); refine q01 (k:=?_); clear hF)
     exact Fin.two (x := .sl 3 (q08 (x :: out))) (by simp [fz, fzc, q55, upd, tms, mms, q08, q4w]) (q02 _) rfl rfl (.inl rfl) (.inl rfl)
theorem ev_k109 (l : List Rec) (hw : q4y l ≤ 5000000) : Ev (En Tryz.prog rfl).P 109 [.sl 3 (q08 l)] (.ret (.tup [.sl 3 (q08 (if q34 l = true then q9t l else [])), .int .i64 (if q34 l = true then 0 else 1)])) := by
 have hlw := q7h l
 refine qqk l (q4y l) hw (by omega) (fun r hr => by have := qg5 hr; unfold wtK at this; omega) (fun i m s _ => ?_)
 exact Nat.le_trans (wts_le (List.take_sublist m (l.drop i))) (q7l ((List.drop_sublist i l).map wtK))

theorem q8g {p : Pst} {r : Nat} {n : Int} (h : inP p r n) : r < 16 := h.1
theorem has_norm (p : Pst) (d : Rn) : q1l (q1g p) d = q1l p d := qc0 (by
 rw [q1w, q1w]
 exact ⟨fun h => ⟨h.1, (qid p (q8g h.2) _).1 h.2⟩, fun h => ⟨h.1, (qid p (q8g h.2) _).2 h.2⟩⟩)
theorem q4p (p q : Pst) (d : Rn) : q1l (q1e [p, q]) d = (q1l p d || q1l q d) := qc0 (by
 rw [Bool.or_eq_true, q1w, q1w, q1w]
 constructor
 ·intro h
  have := (q6j [p, q] (q8g h.2) _).1 h.2
  simp only [List.mem_cons, List.not_mem_nil, or_false, exists_eq_or_imp, exists_eq_left] at this
  exact this.imp (fun x => ⟨h.1, x⟩) (fun x => ⟨h.1, x⟩)
 ·rintro (h | h)
  ·exact ⟨h.1, (q6j _ (q8g h.2) _).2 ⟨p, by simp, h.2⟩⟩
  ·exact ⟨h.1, (q6j _ (q8g h.2) _).2 ⟨q, by simp, h.2⟩⟩)
theorem zda {p : Pst} {d : Rn} : (!q1l p d) = true ↔ ¬ (0 ≤ d.1 ∧ inP p d.1.toNat d.2) := by
 rw [← q1w]
 cases q1l p d <;> simp
theorem qq9 (p q : Pst) (d : Rn) : q1l (q3o p q) d = (q1l p d && !q1l q d) := qc0 (by
 rw [Bool.and_eq_true, q1w, q1w, zda]
 constructor
 ·intro h
  have := (q8e p q (q8g h.2) _).1 h.2
  exact ⟨⟨h.1, this.1⟩, fun h' => this.2 h'.2⟩
 ·rintro ⟨h, h'⟩
  exact ⟨h.1, (q8e p q (q8g h.2) _).2 ⟨h.2, fun x => h' ⟨h.1, x⟩⟩⟩)
theorem has_last {p : Pst} {d : Rn} (h : q1l p d = true) : d.2 ≤ qcl p d.1 := by
 have h' := q1w p d |>.1 h
 have := (qq6 p (q8g h'.2)).2 _ h'.2
 rwa [Int.toNat_of_nonneg h'.1] at this
theorem zd9 {p q : Pst} {d : Rn} (hw : q0n p q = true) (h : q1l p d = true) : q1l q d = true := by
 have h' := (q1w p d).1 h
 exact (q1w q d).2 ⟨h'.1, q2h.1 hw _ (q8g h'.2) _ h'.2⟩
theorem qir {p : Pst} {d : Rn} (h : q1l p d = true) : 1 ≤ q2x p := by
 have h' := (q1w p d).1 h
 rw [qb6]
 have := qfl h'.2.2.1 h'.2.2.2.1 h'.2 (q8g h'.2)
 omega

def SrtK (l : List Rec) : Prop := ∀ (i : Nat) a b, l[i]? = some a → l[i + 1]? = some b → q3x a b < 0
theorem SrtK.tail {t l : List Rec} (h : SrtK (t ++ l)) : SrtK l := fun i a b ha hb =>
 h (t.length + i) a b (by rw [List.getElem?_append_right (by omega)]; simpa using ha) (by rw [List.getElem?_append_right (by omega)]; rw [show t.length + i + 1 - t.length = i + 1 by omega]; exact hb)
theorem zs2 (s : ByteArray) : (bs s).length = s.size := by simp [bs]
theorem sku_step {a b : Rec} (h : q3x a b < 0) (ha : a.sku.size ≠ 0) : b.sku.size ≠ 0 := by
 intro hb
 have h1 : bs b.sku = [] := by
  have := zs2 b.sku
  rw [hb] at this
  exact List.length_eq_zero_iff.1 this
 have h2 : q8p a.sku b.sku = 1 := by
  unfold q8p
  rw [h1]
  cases h3 : bs a.sku with
  | nil =>
   have := zs2 a.sku
   rw [h3] at this
   exact absurd this.symm ha
  | cons x l => rfl
 unfold q3x at h
 rw [h2] at h
 simp at h
theorem qrz : ∀ {l : List Rec} {r : Rec}, SrtK (r :: l) → r.sku.size ≠ 0 → ∀ x ∈ r :: l, x.sku.size ≠ 0
 | [], r, _, h, x, hx => by simp at hx; subst hx; exact h
 | q :: l, r, hs, h, x, hx => by
  rcases List.mem_cons.1 hx with rfl | hx
  ·exact h
  ·exact qrz (SrtK.tail (t := [r]) hs) (sku_step (hs 0 r q rfl rfl) h) x hx
theorem qqa (ps : List Pst) (d : Rn) : q1l (q1e ps) d = true ↔ ∃ p ∈ ps, q1l p d = true := by
 rw [q1w]
 constructor
 ·rintro ⟨h0, h⟩
  obtain ⟨p, hp, hi⟩ := (q6j ps h.1 _).1 h
  exact ⟨p, hp, (q1w p d).2 ⟨h0, hi⟩⟩
 ·rintro ⟨p, hp, h⟩
  obtain ⟨h0, hi⟩ := (q1w p d).1 h
  exact ⟨h0, (q6j ps hi.1 _).2 ⟨p, hp, hi⟩⟩
theorem zq8 (d : Rn) : q1l ⟨[], []⟩ d = false := by
 unfold q1l
 simp
 intro h h1
 simp [q44] at h
 omega
def q68 (l : List Rec) (e : Ent) : Prop := ∃ r ∈ l, qco r e = true
theorem q5g (l : List Rec) (e : Ent) : q6a l e = 0 ↔ ¬ q68 l e := by
 unfold q6a q68
 rw [List.length_eq_zero_iff, List.filter_eq_nil_iff]
 constructor
 ·rintro h ⟨r, hr, hc⟩; exact h r hr hc
 ·intro h r hr hc; exact h ⟨r, hr, hc⟩
theorem qjm (l m : List Rec) (e : Ent) : q68 (l ++ m) e ↔ q68 l e ∨ q68 m e := by
 unfold q68
 constructor
 ·rintro ⟨r, hr, hc⟩
  rcases List.mem_append.1 hr with hr | hr
  ·exact .inl ⟨r, hr, hc⟩
  ·exact .inr ⟨r, hr, hc⟩
 ·rintro (⟨r, hr, hc⟩ | ⟨r, hr, hc⟩)
  ·exact ⟨r, by simp [hr], hc⟩
  ·exact ⟨r, by simp [hr], hc⟩
theorem q7x (r : Rec) (e : Ent) : qco r e = true ↔ (r.sku.size = 0 ∨ r.sku = e.sku) ∧ q1l r.past e.dot = true := by
 unfold qco
 simp [Bool.and_eq_true, Bool.or_eq_true]
theorem zc5 (s : ByteArray) (p : Pst) (e : Ent) : q68 (qjn s p) e ↔ (s.size = 0 ∨ s = e.sku) ∧ q1l p e.dot = true := by
 unfold qjn
 split
 ·rename_i h
  constructor
  ·rintro ⟨r, hr, _⟩; cases hr
  ·rintro ⟨_, h2⟩
   have := qir h2
   omega
 ·constructor
  ·rintro ⟨r, hr, hc⟩
   simp at hr
   subst hr
   exact (q7x _ e).1 hc
  ·intro h
   exact ⟨⟨s, p⟩, by simp, (q7x _ e).2 h⟩
theorem qri {r : Rec} {l : List Rec} (e : Ent) : q68 ((r :: l).takeWhile (q12 r.sku)) e ↔ (r.sku.size = 0 ∨ r.sku = e.sku) ∧ q1l (q2y (r :: l)) e.dot = true := by
 have hall : ∀ x ∈ (r :: l).takeWhile (q12 r.sku), x.sku = r.sku := fun x hx => of_decide_eq_true (List.all_eq_true.1 (List.all_takeWhile (p := q12 r.sku)) x hx)
 unfold q2y zd8
 rw [qqa]
 simp only [List.mem_map]
 constructor
 ·rintro ⟨x, hx, hc⟩
  have h := (q7x x e).1 hc
  rw [hall x hx] at h
  exact ⟨h.1, x.past, ⟨x, hx, rfl⟩, h.2⟩
 ·rintro ⟨h1, _, ⟨x, hx, rfl⟩, h2⟩
  exact ⟨x, hx, (q7x x e).2 ⟨by rw [hall x hx]; exact h1, h2⟩⟩
theorem qhj (r : Rec) (l : List Rec) (e : Ent) : q68 (r :: l) e ↔ q68 ((r :: l).takeWhile (q12 r.sku)) e ∨ q68 ((r :: l).dropWhile (q12 r.sku)) e := by
 rw [← qjm, List.takeWhile_append_dropWhile]
theorem qjd (r : Rec) (l : List Rec) : ((r :: l).dropWhile (q12 r.sku)).length ≤ l.length := by
 rw [List.dropWhile_cons_of_pos (by simp [q12])]
 exact (List.dropWhile_suffix _).length_le
theorem qf8 : ∀ (n : Nat) (L : List Rec) (all : Pst) (e : Ent), L.length ≤ n → (∀ x ∈ L, x.sku.size ≠ 0) → ((q68 (q60 n L all) e ∨ q1l all e.dot = true) ↔ (q68 L e ∨ q1l all e.dot = true))
 | 0, L, all, e, h, _ => by
  have : L = [] := List.length_eq_zero_iff.1 (by omega)
  subst this
  exact Iff.rfl
 | n + 1, [], all, e, _, _ => Iff.rfl
 | n + 1, r :: l, all, e, h, hne => by
  have hz := hne r (by simp)
  have hdl := qjd r l
  have ih := qf8 n ((r :: l).dropWhile (q12 r.sku)) all e (by simp at h; omega) (fun x hx => hne x ((List.dropWhile_sublist _).subset hx))
  show (q68 (qjn r.sku (zax all r.sku (q2y (r :: l))) ++ q60 n ((r :: l).dropWhile (q12 r.sku)) (ze3 all r.sku (q2y (r :: l)))) e ∨ _) ↔ _
  rw [show zax all r.sku (q2y (r :: l)) = q3o (q2y (r :: l)) all from if_neg hz, show ze3 all r.sku (q2y (r :: l)) = all from if_neg hz]
  rw [qjm, zc5, qhj, qri, qq9]
  by_cases ha : q1l all e.dot = true
  ·simp [ha]
  ·have ha' : q1l all e.dot = false := by simpa using ha
   rw [ha'] at ih
   simp only [Bool.false_eq_true, or_false] at ih
   rw [ha', ih]
   simp
theorem zqe {l : List Rec} (hs : SrtK l) (e : Ent) : q68 (q9t l) e ↔ q68 l e := by
 have hh : ∀ m : List Rec, q68 (qiq m) e ↔ q68 m e := by
  intro m
  cases m with
  | nil => exact Iff.rfl
  | cons r m =>
   show q68 (if r.sku.size = 0 then ⟨r.sku, q1g r.past⟩ :: m else r :: m) e ↔ _
   split
   ·have hc : qco ⟨r.sku, q1g r.past⟩ e = qco r e := by unfold qco; simp only [has_norm]
    unfold q68
    simp [hc]
   ·exact Iff.rfl
 unfold q9t
 rw [hh]
 cases l with
 | nil => exact Iff.rfl
 | cons r l =>
  by_cases hz : r.sku.size = 0
  ·have hdl := qjd r l
   have hd : ∀ x ∈ (r :: l).dropWhile (q12 r.sku), x.sku.size ≠ 0 := by
    have h1 := SrtK.tail (t := (r :: l).takeWhile (q12 r.sku)) (l := (r :: l).dropWhile (q12 r.sku)) (by rw [List.takeWhile_append_dropWhile]; exact hs)
    have h2 := List.head?_dropWhile_not (q12 r.sku) (r :: l)
    generalize (r :: l).dropWhile (q12 r.sku) = D at h1 h2 ⊢
    cases D with
    | nil => intro x hx; cases hx
    | cons q D =>
     refine qrz h1 ?_
     intro hq
     simp [q12] at h2
     exact h2 (by rw [q5n.2 hq, q5n.2 hz])
   have ih := qf8 l.length ((r :: l).dropWhile (q12 r.sku)) (q2y (r :: l)) e hdl hd
   show q68 (qjn r.sku (zax ⟨[], []⟩ r.sku (q2y (r :: l))) ++ q60 l.length ((r :: l).dropWhile (q12 r.sku)) (ze3 ⟨[], []⟩ r.sku (q2y (r :: l)))) e ↔ _
   rw [show zax ⟨[], []⟩ r.sku (q2y (r :: l)) = q2y (r :: l) from if_pos hz, show ze3 ⟨[], []⟩ r.sku (q2y (r :: l)) = q2y (r :: l) from if_pos hz]
   rw [qjm, zc5, qhj, qri]
   simp only [hz, true_or, true_and]
   rw [or_comm, ih, or_comm]
  ·have h := qf8 (r :: l).length (r :: l) ⟨[], []⟩ e (Nat.le_refl _) (qrz hs hz)
   rw [zq8] at h
   simpa using h
theorem zbi : ∀ (n : Nat) (L : List Rec) (all : Pst) (W : Nat), q4y L ≤ W → wt all ≤ 16 + W → (q60 n L all).length ≤ L.length ∧ ∀ r ∈ q60 n L all, wt r.past ≤ 64 + 2 * W
 | 0, L, all, W, _, _ => ⟨Nat.zero_le _, fun r hr => absurd hr (by simp [q60])⟩
 | n + 1, [], all, W, _, _ => ⟨Nat.le_refl _, fun r hr => absurd hr (by simp [q60])⟩
 | n + 1, r :: l, all, W, h, ha => by
  have hdl := qjd r l
  have hj : wt (q2y (r :: l)) ≤ 16 + W := by
   have h1 := q59 ((zd8 (r :: l)).map (·.past))
   have h2 := wts_le (l := zd8 (r :: l)) (m := r :: l) (List.takeWhile_sublist _)
   unfold q2y
   omega
  have hmw := qep (q2y (r :: l)) all
  have hD : q4y ((r :: l).dropWhile (q12 r.sku)) ≤ W := Nat.le_trans (q7l ((List.dropWhile_sublist _).map wtK)) h
  have ih := zbi n ((r :: l).dropWhile (q12 r.sku)) (ze3 all r.sku (q2y (r :: l))) W hD (by unfold ze3; split <;> omega)
  have ho : ∀ p, (qjn r.sku p).length ≤ 1 := fun p => by unfold qjn; split <;> simp
  refine ⟨?_, fun x hx => ?_⟩
  ·show (qjn r.sku _ ++ q60 n _ _).length ≤ _
   rw [List.length_append]
   have := ho (zax all r.sku (q2y (r :: l)))
   simp only [List.length_cons]
   omega
  ·rcases List.mem_append.1 (show x ∈ qjn r.sku _ ++ q60 n _ _ from hx) with hx | hx
   ·unfold qjn at hx
    split at hx
    ·cases hx
    ·simp at hx
     subst hx
     show wt (zax all r.sku (q2y (r :: l))) ≤ _
     unfold zax
     split <;> omega
   ·exact ih.2 x hx
theorem foldK_wt (l : List Rec) : (q9t l).length ≤ l.length ∧ ∀ r ∈ q9t l, wt r.past ≤ 96 + 2 * q4y l := by
 have h := zbi l.length l ⟨[], []⟩ (q4y l) (Nat.le_refl _) (Nat.zero_le _)
 unfold q9t
 generalize q60 l.length l ⟨[], []⟩ = m at h ⊢
 cases m with
 | nil => exact ⟨h.1, fun x hx => absurd hx (by simp [qiq])⟩
 | cons r m =>
  have h1 : ∀ x ∈ r :: m, wt x.past ≤ 96 + 2 * q4y l := fun x hx => by have := h.2 x hx; omega
  by_cases hz : r.sku.size = 0
  ·rw [show qiq (r :: m) = ⟨r.sku, q1g r.past⟩ :: m from if_pos hz]
   refine ⟨h.1, fun x hx => ?_⟩
   rcases List.mem_cons.1 hx with rfl | hx
   ·have h2 := q6g r.past
    have h3 := h.2 r (by simp)
    show wt (q1g r.past) ≤ _
    omega
   ·exact h1 x (by simp [hx])
  ·rw [show qiq (r :: m) = r :: m from if_neg hz]
   exact ⟨h.1, h1⟩

def zjo : List SOp := [zO 4 (.assign (.const (.slice none 0 0))),zO 5 (.assign (.const (.int .i64 0)))]
instance : Live zjo := ⟨[0,1]⟩
def zjn : List SOp := [zM 11 0,zO 12 (.call ⟨.value (.func 53),#[.tmp 11],#[22]⟩),zO 13 (.binOp .neq 32 (.tmp 12) (.const (.int .i64 0)) 32),zM 14 13,⟨some 15,.move (.tmp 1),some ((some 14),false)⟩,⟨some 16,.call ⟨.value (.func 55),#[.tmp 15],#[27]⟩,some ((some 14),false)⟩,⟨some 17,.binOp .neq 32 (.tmp 16) (.const (.int .i64 0)) 32,some ((some 14),false)⟩,zO 18 (.pick (.tmp 14) (.const (.bool true)) (.tmp 17))]
instance : Live zjn := ⟨[0,1]⟩
def zjm : List SOp := [zO 4 (.assign (.const (.slice none 0 0))),zO 5 (.assign (.const (.int .i64 1)))]
instance : Live zjm := ⟨[]⟩
def zjl : List SOp := [zM 20 1,zO 21 (.call ⟨.value (.func 109),#[.tmp 20],#[27]⟩),zM 19 21,zX 22 19 0,zX 23 19 1,zG 6 22,zG 7 23]
instance : Live zjl := ⟨[0,1]⟩
def zjk : List SOp := [zO 8 (.assign (.const (.slice none 0 0)))]
instance : Live zjk := ⟨[0,6]⟩
def zjj : List SOp := [zM 24 0,zO 25 (.call ⟨.builtin .len,#[.tmp 24],#[22]⟩),zO 26 (.move (.const (.int .i64 0)))]
instance : Live zjj := ⟨[0,6,8]⟩
def zji : List SOp := [zO 27 (.binOp .lss 3 (.tmp 26) (.tmp 25) 3)]
instance : Live zji := ⟨[6,8,24,25,26]⟩
def zjh : List SOp := [zI 28 22 24 26,zL 29 62 28,zO 10 (.alloc 62),⟨none,.store 62 (.tmp 10) (.tmp 29),none⟩]
instance : Live zjh := ⟨[6,8,24,25,26]⟩
def zjg : List SOp := [zM 30 6,zL 31 62 10,zO 32 (.call ⟨.value (.func 110),#[.tmp 30,.tmp 31],#[27,62]⟩),zO 33 (.binOp .eql 3 (.tmp 32) (.const (.int .i64 0)) 3)]
instance : Live zjg := ⟨[6,8,10,24,25,26]⟩
def qwb : List SOp := [zM 34 8,zL 35 62 10,zO 36 (.buildSlice 22 1 #[(0,.tmp 35)]),zO 37 (.call ⟨.builtin .append,#[.tmp 34,.tmp 36],#[22,22]⟩),zG 8 37]
instance : Live qwb := ⟨[6,8,10,24,25,26]⟩
def qwa : List SOp := [zO 38 (.binOp .add 3 (.tmp 26) (.const (.int .i64 1)) 3),zM 26 38]
instance : Live qwa := ⟨[6,8,24,25,26]⟩
def qw9 : List SOp := [zM 39 8,zG 4 39,zO 5 (.assign (.const (.int .i64 0)))]
instance : Live qw9 := ⟨[8]⟩
def qu1 : SC :=
 (.seq (.ops false zji) (.seq (.cond (.tmp 27) .skip (.exit 0)) (.seq (.block 1 (.seq (.ops false zjh) (.seq (.ops false zjg) (.cond (.tmp 33) (.ops false qwb) .skip)))) (.ops false qwa))))
def t_k58 : SC :=
 (.seq (.ops false zjo) (.seq (.seq (.ops false zjn) (.cond (.tmp 18) (.seq (.ops false zjm) .ret) .skip)) (.seq (.ops false zjl) (.seq (.ops false zjk) (.seq (.seq (.ops false zjj) (.block 0 (.loop qu1))) (.seq (.ops false qw9) .ret))))))
theorem it_k58 : FnIs Tryz.prog 58 40 [.tmp 4, .tmp 5] t_k58 := ⟨Tryz.f58, _, Tryz.func58, rfl, rfl, rfl, rfl, by kernel_rfl⟩

def q3z (l : List Rec) (es : List Ent) : List Ent := es.filter fun e => decide (q6a l e = 0)
theorem zcz {es : List Ent} {i : Nat} {e : Ent} (h : es[i]? = some e) (l : List Rec) : q3z l (es.take (i + 1)) = q3z l (es.take i) ++ if q6a l e = 0 then [e] else [] := by
 unfold q3z
 rw [List.take_add_one, h, List.filter_append]
 by_cases hc : q6a l e = 0 <;> simp [hc]
theorem zpo (l : List Rec) (es : List Ent) : (q3z l es).length ≤ es.length := List.length_filter_le _ _
theorem zd0 {l : List Rec} (h : q3s l) (es : List Ent) : q3z (q9t l) es = q3z l es := by
 unfold q3z
 congr 1
 funext e
 refine qc0 ?_
 rw [decide_eq_true_iff, decide_eq_true_iff, q5g, q5g, zqe h.2]
theorem zqu (es : List Ent) (l : List Rec) (hl : es.length ≤ 100000000)
 (c2 : Ev (En Tryz.prog rfl).P 55 [.sl 3 (q08 l)] (.ret (.int .i64 (if q34 l = true then 0 else 1))))
 (c3 : Ev (En Tryz.prog rfl).P 109 [.sl 3 (q08 l)] (.ret (.tup [.sl 3 (q08 (if q34 l = true then q9t l else [])), .int .i64 (if q34 l = true then 0 else 1)])))
 (hfl : (q9t l).length ≤ 900000000) (hfw : ∀ r ∈ q9t l, wt r.past ≤ 900000000) : Ev (En Tryz.prog rfl).P 58 [.sl 4 (q0a es), .sl 3 (q08 l)] (.ret (.tup [.sl 4 (q0a (if q6v es = true ∧ q34 l = true then q3z l es else [])), .int .i64 (if q6v es = true ∧ q34 l = true then 0 else 1)])) := by
 refine Ev.of_body it_k58 (by simp) (Run.start ?_)
 unfold t_k58
 have e1 := q0o es
 have hS := qrk
 have c1 := qgy es (by omega)
 (have hF := @e1; refine q01 (k:=?_); clear hF)
 refine q00 [.sl 4 (q0a es)] (he := c1) (k:=?_)
 by_cases h1 : q6v es = true
 ·rw [if_pos h1]
  by_cases h2 : q34 l = true
  ·simp only [h2, if_true, and_true, h1] at c2 c3 ⊢
   have hlf := zd0 (q74.1 h2) es
   (have hF := @e1; refine q01 (k:=?_); clear hF)
   refine q00 [.sl 3 (q08 l)] (he := c2) (k:=?_)
   (have hF := @e1; refine q01 (k:=?_); clear hF)
   refine q00 [.sl 3 (q08 l)] (he := c3) (k:=?_)
   rw [← hlf]
   generalize q9t l = F at *
   (have hF := @e1; refine q01 (k:=?_); clear hF)
   refine Run.wk (Wk.own_nil 8 37 4 rfl rfl) ?_
   refine Run.while (σ := Nat) (fun i => ⟨tms [(6, .sl 3 (q08 F)), (8, .os 37 (q3z F (es.take i)).length), (24, .sl 4 (q0a es)), (25, .int .i64 es.length), (26, .int .i64 (i : Int))], mms [(37, .arr (q3z F (es.take i)).length 4 (q0a (q3z F (es.take i))))]⟩)
    (fun i => i ≤ es.length) (fun i => es.length - i) 0 (have hW := (aI @q02 @q09); q0g) (Nat.zero_le _) ?_
   intro i hi
   unfold qu1
   by_cases hlt : i < es.length
   ·obtain ⟨e, he⟩ : ∃ e, es[i]? = some e := ⟨es[i], by simp [hlt]⟩
    have g1 := q16 he
    have c4 := ev_k110 F e (by omega) hfw
    have hst := zcz he F
    have hle := zpo F (es.take i)
    have hle2 : (es.take i).length ≤ es.length := by rw [List.length_take]; omega
    have hbl := zbv F e
    generalize q3z F (es.take i) = out at hst hle ⊢
    have e2 := q0o out
    (have hF := (aI @e1 (aI @e2 @g1)); refine q01 (k:=?_); clear hF)
    refine q00 [.sl 3 (q08 F), qcn e] (he := c4) (k:=?_)
    by_cases hb : q6a F e = 0
    ·rw [if_pos hb] at hst
     rw [hb]
     (have hF := (aI @e1 @e2); refine q01 (k:=?_); clear hF)
     (refine Fin.nextW (i + 1) ?_ (have hW := (aI (aI @q02 @q09) (aI @hst @q15)); q0g); (try dsimp only))
     omega
    ·rw [if_neg hb, List.append_nil] at hst
     have hb' : ¬ ((q6a F e : Nat) : Int) = 0 := by omega
     (have hF := (aI @e1 (aI @e2 @hb')); refine q01 (k:=?_); clear hF)
     (refine Fin.nextW (i + 1) ?_ (have hW := (aI (aI @q02 @q09) (aI @hst @q15)); q0g); (try dsimp only))
     omega
   ·rw [List.take_of_length_le (show es.length ≤ i by omega)]
    (have hF := @e1; refine q01 (k:=?_); clear hF)
    exact Fin.two (x := .sl 4 (q0a (q3z F es))) (by simp [fz, fzc, q55, upd, tms, mms]) (q09 _) rfl rfl (.inl rfl) (.inl rfl)
  ·simp only [h2, Bool.false_eq_true, if_false, and_false] at c2 ⊢
   (have hF := @e1; refine q01 (k:=?_); clear hF)
   refine q00 [.sl 3 (q08 l)] (he := c2) (k:=?_)
   (have hF := @e1; refine q01 (k:=?_); clear hF)
   exact Fin.two (x := .nil) (x' := .int .i64 1) rfl rfl rfl rfl (.inr ⟨rfl, 4, rfl⟩) (.inl rfl)
 ·simp only [h1, Bool.false_eq_true, if_false, false_and]
  (have hF := @e1; refine q01 (k:=?_); clear hF)
  exact Fin.two (x := .nil) (x' := .int .i64 1) rfl rfl rfl rfl (.inr ⟨rfl, 4, rfl⟩) (.inl rfl)
theorem ev_k58 (es : List Ent) (l : List Rec) (hl : es.length ≤ 100000000) (hw : q4y l ≤ 5000000) : Ev (En Tryz.prog rfl).P 58 [.sl 4 (q0a es), .sl 3 (q08 l)] (.ret (.tup [.sl 4 (q0a (if q6v es = true ∧ q34 l = true then q3z l es else [])), .int .i64 (if q6v es = true ∧ q34 l = true then 0 else 1)])) := by
 have hlw := q7h l
 have h := foldK_wt l
 exact zqu es l hl (ev_k55 l (by omega)) (ev_k109 l hw) (by omega) (fun r hr => by have := h.2 r hr; omega)

def qy9 : List SOp := [zO 2 (.assign (.const (.int .i64 0)))]
instance : Live qy9 := ⟨[0]⟩
def qy8 : List SOp := [zM 3 0,zO 4 (.binOp .geq 79 (.tmp 3) (.const (.int .u64 4294967296)) 79)]
instance : Live qy8 := ⟨[0,2]⟩
def qy7 : List SOp := [zM 5 0,zO 6 (.binOp .shr 79 (.tmp 5) (.const (.int .u64 32)) 204),zG 0 6]
instance : Live qy7 := ⟨[0]⟩
def qy6 : List SOp := [zO 2 (.assign (.const (.int .i64 32)))]
instance : Live qy6 := ⟨[0]⟩
def qy5 : List SOp := [zM 7 0,zO 8 (.binOp .geq 79 (.tmp 7) (.const (.int .u64 65536)) 79)]
instance : Live qy5 := ⟨[0,2]⟩
def qy4 : List SOp := [zM 9 0,zO 10 (.binOp .shr 79 (.tmp 9) (.const (.int .u64 16)) 204),zG 0 10]
instance : Live qy4 := ⟨[0,2]⟩
def qy3 : List SOp := [zM 11 2,zO 12 (.binOp .add 3 (.tmp 11) (.const (.int .i64 16)) 3),zG 2 12]
instance : Live qy3 := ⟨[0,2]⟩
def qy2 : List SOp := [zM 13 0,zO 14 (.binOp .geq 79 (.tmp 13) (.const (.int .u64 256)) 79)]
instance : Live qy2 := ⟨[0,2]⟩
def qy1 : List SOp := [zM 15 0,zO 16 (.binOp .shr 79 (.tmp 15) (.const (.int .u64 8)) 204),zG 0 16]
instance : Live qy1 := ⟨[0,2]⟩
def qlg : List SOp := [zM 17 2,zO 18 (.binOp .add 3 (.tmp 17) (.const (.int .i64 8)) 3),zG 2 18]
instance : Live qlg := ⟨[0,2]⟩
def qlf : List SOp := [zM 19 2,zM 20 0,zO 21 (.convert 79 5 (.tmp 20)),zO 22 (.index 9 (.const (.string ⟨List.toArray ([0,1,2,2,3,3,3,3,4,4,4,4,4,4,4,4,5,5,5,5,5,5,5,5,5,5,5,5,5,5,5,5,6,6,6,6,6,6,6,6,6,6,6,6,6,6,6,6,6,6,6,6,6,6,6,6,6,6,6,6,6,6,6,6,7,7,7,7,7,7,7,7,7,7,7,7,7,7,7,7,7,7,7,7,7,7,7,7,7,7,7,7,7,7,7,7,7,7,7,7,7,7,7,7,7,7,7,7,7,7,7,7,7,7,7,7,7,7,7,7,7,7,7,7,7,7,7,7] ++ [8,8,8,8,8,8,8,8,8,8,8,8,8,8,8,8,8,8,8,8,8,8,8,8,8,8,8,8,8,8,8,8,8,8,8,8,8,8,8,8,8,8,8,8,8,8,8,8,8,8,8,8,8,8,8,8,8,8,8,8,8,8,8,8,8,8,8,8,8,8,8,8,8,8,8,8,8,8,8,8,8,8,8,8,8,8,8,8,8,8,8,8,8,8,8,8,8,8,8,8,8,8,8,8,8,8,8,8,8,8,8,8,8,8,8,8,8,8,8,8,8,8,8,8,8,8,8,8])⟩)) (.tmp 21)),zO 23 (.convert 5 3 (.tmp 22)),zO 24 (.binOp .add 3 (.tmp 19) (.tmp 23) 3),zG 2 24]
instance : Live qlf := ⟨[0,2]⟩
def t_k183 : SC :=
 (.seq (.ops false qy9) (.seq (.seq (.ops false qy8) (.cond (.tmp 4) (.seq (.ops false qy7) (.ops false qy6)) .skip)) (.seq (.seq (.ops false qy5) (.cond (.tmp 8) (.seq (.ops false qy4) (.ops false qy3)) .skip)) (.seq (.seq (.ops false qy2) (.cond (.tmp 14) (.seq (.ops false qy1) (.ops false qlg)) .skip)) (.seq (.ops false qlf) .ret)))))
theorem it_k183 : FnIs Tryz.prog 183 25 [.tmp 2] t_k183 := ⟨Tryz.f183, _, Tryz.func183, rfl, rfl, rfl, rfl, by kernel_rfl⟩

def qzl : List SOp := [zO 2 (.assign (.const (.int .i64 0)))]
instance : Live qzl := ⟨[0]⟩
def qzk : List SOp := [zM 3 0,zO 4 (.convert 204 220 (.tmp 3)),zO 5 (.call ⟨.value (.func 182),#[.tmp 4],#[220]⟩),zG 2 5]
instance : Live qzk := ⟨[0]⟩
def qzj : List SOp := [zM 6 0,zO 7 (.call ⟨.value (.func 183),#[.tmp 6],#[79]⟩),zG 2 7]
instance : Live qzj := ⟨[0]⟩
def t_k164 : SC :=
 (.seq (.ops false qzl) (.seq (.cond (.const (.bool false)) (.seq (.ops false qzk) .ret) .skip) (.seq (.ops false qzj) .ret)))
theorem it_k164 : FnIs Tryz.prog 164 8 [.tmp 2] t_k164 := ⟨Tryz.f164, _, Tryz.func164, rfl, rfl, rfl, rfl, by kernel_rfl⟩

def qyf : List SOp := [zM 10 1,zO 11 (.binOp .add 3 (.tmp 10) (.const (.int .i64 1)) 3),zG 8 11]
instance : Live qyf := ⟨[0,1,2,3]⟩
def qye : List SOp := [zM 12 8,zM 13 2,zO 14 (.binOp .lss 3 (.tmp 12) (.tmp 13) 3)]
instance : Live qye := ⟨[0,1,2,3,8]⟩
def qyd : List SOp := [zM 17 8,zG 9 17]
instance : Live qyd := ⟨[0,1,2,3,8]⟩
def qyc : List SOp := [zM 18 9,zM 19 1,zO 20 (.binOp .gtr 3 (.tmp 18) (.tmp 19) 3),zM 21 20,⟨some 22,.move (.tmp 3),some ((some 21),true)⟩,⟨some 23,.move (.tmp 0),some ((some 21),true)⟩,⟨some 24,.move (.tmp 9),some ((some 21),true)⟩,⟨some 25,.indexAddr 27 (.tmp 23) (.tmp 24),some ((some 21),true)⟩,⟨some 26,.load 91 (.tmp 25),some ((some 21),true)⟩,⟨some 27,.move (.tmp 0),some ((some 21),true)⟩,⟨some 28,.move (.tmp 9),some ((some 21),true)⟩,⟨some 29,.binOp .sub 3 (.tmp 28) (.const (.int .i64 1)) 3,some ((some 21),true)⟩,⟨some 30,.indexAddr 27 (.tmp 27) (.tmp 29),some ((some 21),true)⟩,⟨some 31,.load 91 (.tmp 30),some ((some 21),true)⟩,⟨some 32,.call ⟨.value (.tmp 22),#[.tmp 26,.tmp 31],#[91,91]⟩,some ((some 21),true)⟩,⟨some 33,.binOp .lss 3 (.tmp 32) (.const (.int .i64 0)) 3,some ((some 21),true)⟩,zO 34 (.pick (.tmp 21) (.tmp 33) (.const (.bool false)))]
instance : Live qyc := ⟨[0,1,2,3,8,9]⟩
def qhz : List SOp := [zM 37 0,zM 38 9,zM 39 0,zM 40 9,zO 41 (.binOp .sub 3 (.tmp 40) (.const (.int .i64 1)) 3),zM 42 0,zM 43 9,zO 44 (.binOp .sub 3 (.tmp 43) (.const (.int .i64 1)) 3),zI 45 27 42 44,zL 46 91 45,zM 47 0,zM 48 9,zI 49 27 47 48,zL 50 91 49,zI 51 27 37 38,⟨none,.store 91 (.tmp 51) (.tmp 46),none⟩,zI 52 27 39 41,⟨none,.store 91 (.tmp 52) (.tmp 50),none⟩]
instance : Live qhz := ⟨[0,1,2,3,8,9]⟩
instance : Rd qhz := ⟨fun j => false⟩
def qyb : List SOp := [zM 35 9,zO 36 (.binOp .sub 3 (.tmp 35) (.const (.int .i64 1)) 3),zG 9 36]
instance : Live qyb := ⟨[0,1,2,3,8,9]⟩
def qya : List SOp := [zM 15 8,zO 16 (.binOp .add 3 (.tmp 15) (.const (.int .i64 1)) 3),zG 8 16]
instance : Live qya := ⟨[0,1,2,3,8]⟩
def zep : SC :=
 (.seq (.seq (.ops true qyc) (.cond (.tmp 34) .skip (.exit 2))) (.seq (.block 3 (.opsW [] qhz)) (.ops false qyb)))
def qk3 : SC :=
 (.seq (.seq (.ops false qye) (.cond (.tmp 14) .skip (.exit 0))) (.seq (.block 1 (.seq (.ops false qyd) (.block 2 (.loop zep)))) (.ops false qya)))
def t_k174 : SC :=
 (.seq (.ops false qyf) (.block 0 (.loop qk3)))
theorem it_k174 : FnIs Tryz.prog 174 53 [] t_k174 := ⟨Tryz.f174, _, Tryz.func174, rfl, rfl, rfl, rfl, by kernel_rfl⟩

def qzu : List SOp := [zO 10 (.assign (.const (.bool true)))]
instance : Live qzu := ⟨[0,1,2,3,4]⟩
def qzt : List SOp := [zO 11 (.assign (.const (.bool true)))]
instance : Live qzt := ⟨[0,1,2,3,4,10]⟩
def qzs : List SOp := [zM 21 2,zM 22 1,zO 23 (.binOp .sub 3 (.tmp 21) (.tmp 22) 3),zG 12 23]
instance : Live qzs := ⟨[0,1,2,3,4,10,11]⟩
def qzr : List SOp := [zM 24 12,zO 25 (.binOp .leq 3 (.tmp 24) (.const (.int .i64 12)) 3)]
instance : Live qzr := ⟨[0,1,2,3,4,10,11,12]⟩
def qzq : List SOp := [zM 26 0,zM 27 1,zM 28 2,zM 29 4,zO 30 (.call ⟨.value (.func 174),#[.tmp 26,.tmp 27,.tmp 28,.tmp 29],#[27,3,3,148]⟩)]
instance : Live qzq := ⟨[0,1,2,4]⟩
def qzp : List SOp := [zM 31 3,zO 32 (.binOp .eql 3 (.tmp 31) (.const (.int .i64 0)) 3)]
instance : Live qzp := ⟨[0,1,2,3,4,10,11,12]⟩
def qzo : List SOp := [zM 33 0,zM 34 1,zM 35 2,zM 36 4,zO 37 (.call ⟨.value (.func 175),#[.tmp 33,.tmp 34,.tmp 35,.tmp 36],#[27,3,3,148]⟩)]
instance : Live qzo := ⟨[0,1,2,4]⟩
def qzn : List SOp := [zM 38 10,zO 39 (.unOp .not 4 (.tmp 38))]
instance : Live qzn := ⟨[0,1,2,3,4,10,11,12]⟩
def qzm : List SOp := [zM 40 0,zM 41 1,zM 42 2,zM 43 4,zO 44 (.call ⟨.value (.func 176),#[.tmp 40,.tmp 41,.tmp 42,.tmp 43],#[27,3,3,148]⟩)]
instance : Live qzm := ⟨[0,1,2,3,4,10,11,12]⟩
def qmm : List SOp := [zM 45 3,zO 46 (.binOp .sub 3 (.tmp 45) (.const (.int .i64 1)) 3),zG 3 46]
instance : Live qmm := ⟨[0,1,2,3,4,10,11,12]⟩
def qml : List SOp := [zM 48 0,zM 49 1,zM 50 2,zM 51 4,zO 52 (.call ⟨.value (.func 177),#[.tmp 48,.tmp 49,.tmp 50,.tmp 51],#[27,3,3,148]⟩),zM 47 52,zX 53 47 0,zX 54 47 1,zG 13 53,zG 14 54]
instance : Live qml := ⟨[0,1,2,3,4,10,11,12]⟩
def qmk : List SOp := [zM 55 14,zO 56 (.binOp .eql 212 (.tmp 55) (.const (.int .i64 2)) 212)]
instance : Live qmk := ⟨[0,1,2,3,4,10,11,12,13,14]⟩
def qmj : List SOp := [zM 57 0,zM 58 1,zM 59 2,zM 60 4,zO 61 (.call ⟨.value (.func 178),#[.tmp 57,.tmp 58,.tmp 59,.tmp 60],#[27,3,3,148]⟩)]
instance : Live qmj := ⟨[0,1,2,3,4,10,11,12,13]⟩
def qmi : List SOp := [zM 62 2,zO 63 (.binOp .sub 3 (.tmp 62) (.const (.int .i64 1)) 3),zM 64 13,zM 65 1,zO 66 (.binOp .sub 3 (.tmp 64) (.tmp 65) 3),zO 67 (.binOp .sub 3 (.tmp 63) (.tmp 66) 3),zG 13 67]
instance : Live qmi := ⟨[0,1,2,3,4,10,11,12,13]⟩
def qmh : List SOp := [zO 14 (.assign (.const (.int .i64 1)))]
instance : Live qmh := ⟨[0,1,2,3,4,10,11,12,13]⟩
def qmg : List SOp := [zM 68 10,zM 69 68,⟨some 70,.move (.tmp 11),some ((some 69),true)⟩,zO 71 (.pick (.tmp 69) (.tmp 70) (.const (.bool false))),zM 72 71,⟨some 73,.move (.tmp 14),some ((some 72),true)⟩,⟨some 74,.binOp .eql 212 (.tmp 73) (.const (.int .i64 1)) 212,some ((some 72),true)⟩,zO 75 (.pick (.tmp 72) (.tmp 74) (.const (.bool false)))]
instance : Live qmg := ⟨[0,1,2,3,4,10,11,12,13,14]⟩
def qmf : List SOp := [zM 76 0,zM 77 1,zM 78 2,zM 79 4,zO 80 (.call ⟨.value (.func 179),#[.tmp 76,.tmp 77,.tmp 78,.tmp 79],#[27,3,3,148]⟩)]
instance : Live qmf := ⟨[0,1,2,3,4,10,11,12,13]⟩
def qme : List SOp := [zM 81 1,zO 82 (.binOp .gtr 3 (.tmp 81) (.const (.int .i64 0)) 3),zM 83 82,⟨some 84,.move (.tmp 4),some ((some 83),true)⟩,⟨some 85,.move (.tmp 0),some ((some 83),true)⟩,⟨some 86,.move (.tmp 1),some ((some 83),true)⟩,⟨some 87,.binOp .sub 3 (.tmp 86) (.const (.int .i64 1)) 3,some ((some 83),true)⟩,⟨some 88,.indexAddr 27 (.tmp 85) (.tmp 87),some ((some 83),true)⟩,⟨some 89,.load 91 (.tmp 88),some ((some 83),true)⟩,⟨some 90,.move (.tmp 0),some ((some 83),true)⟩,⟨some 91,.move (.tmp 13),some ((some 83),true)⟩,⟨some 92,.indexAddr 27 (.tmp 90) (.tmp 91),some ((some 83),true)⟩,⟨some 93,.load 91 (.tmp 92),some ((some 83),true)⟩,⟨some 94,.call ⟨.value (.tmp 84),#[.tmp 89,.tmp 93],#[91,91]⟩,some ((some 83),true)⟩,⟨some 95,.binOp .lss 3 (.tmp 94) (.const (.int .i64 0)) 3,some ((some 83),true)⟩,⟨some 96,.unOp .not 4 (.tmp 95),some ((some 83),true)⟩,zO 97 (.pick (.tmp 83) (.tmp 96) (.const (.bool false)))]
instance : Live qme := ⟨[0,1,2,3,4,10,11,12,13]⟩
def qmd : List SOp := [zM 98 0,zM 99 1,zM 100 2,zM 101 13,zM 102 4,zO 103 (.call ⟨.value (.func 180),#[.tmp 98,.tmp 99,.tmp 100,.tmp 101,.tmp 102],#[27,3,3,3,148]⟩),zG 15 103]
instance : Live qmd := ⟨[0,1,2,3,4,10,11,13]⟩
def qmc : List SOp := [zM 104 15,zG 1 104]
instance : Live qmc := ⟨[0,2,3,4,10,11,15]⟩
def qmb : List SOp := [zM 106 0,zM 107 1,zM 108 2,zM 109 13,zM 110 4,zO 111 (.call ⟨.value (.func 181),#[.tmp 106,.tmp 107,.tmp 108,.tmp 109,.tmp 110],#[27,3,3,3,148]⟩),zM 105 111,zX 112 105 0,zX 113 105 1,zG 16 112,zG 17 113]
instance : Live qmb := ⟨[0,1,2,3,4,12,13]⟩
def qma : List SOp := [zM 114 17,zG 11 114]
instance : Live qma := ⟨[0,1,2,3,4,12,16,17]⟩
def qm9 : List SOp := [zM 115 16,zM 116 1,zO 117 (.binOp .sub 3 (.tmp 115) (.tmp 116) 3),zM 118 2,zM 119 16,zO 120 (.binOp .sub 3 (.tmp 118) (.tmp 119) 3),zG 18 117,zG 19 120]
instance : Live qm9 := ⟨[0,1,2,3,4,11,12,16]⟩
def qm8 : List SOp := [zM 121 12,zO 122 (.binOp .quo 3 (.tmp 121) (.const (.int .i64 8)) 3),zG 20 122]
instance : Live qm8 := ⟨[0,1,2,3,4,11,12,16,18,19]⟩
def qm7 : List SOp := [zM 123 18,zM 124 19,zO 125 (.binOp .lss 3 (.tmp 123) (.tmp 124) 3)]
instance : Live qm7 := ⟨[0,1,2,3,4,11,16,18,19,20]⟩
def qm6 : List SOp := [zM 126 18,zM 127 20,zO 128 (.binOp .geq 3 (.tmp 126) (.tmp 127) 3),zG 10 128]
instance : Live qm6 := ⟨[0,1,2,3,4,11,16,18,20]⟩
def qm5 : List SOp := [zM 129 0,zM 130 1,zM 131 16,zM 132 3,zM 133 4,zO 134 (.call ⟨.value (.func 163),#[.tmp 129,.tmp 130,.tmp 131,.tmp 132,.tmp 133],#[27,3,3,3,148]⟩)]
instance : Live qm5 := ⟨[0,1,2,3,4,10,11,16]⟩
def qm4 : List SOp := [zM 135 16,zO 136 (.binOp .add 3 (.tmp 135) (.const (.int .i64 1)) 3),zG 1 136]
instance : Live qm4 := ⟨[0,2,3,4,10,11,16]⟩
def qm3 : List SOp := [zM 137 19,zM 138 20,zO 139 (.binOp .geq 3 (.tmp 137) (.tmp 138) 3),zG 10 139]
instance : Live qm3 := ⟨[0,1,2,3,4,11,16,19,20]⟩
def qm2 : List SOp := [zM 140 0,zM 141 16,zO 142 (.binOp .add 3 (.tmp 141) (.const (.int .i64 1)) 3),zM 143 2,zM 144 3,zM 145 4,zO 146 (.call ⟨.value (.func 163),#[.tmp 140,.tmp 142,.tmp 143,.tmp 144,.tmp 145],#[27,3,3,3,148]⟩)]
instance : Live qm2 := ⟨[0,1,2,3,4,10,11,16]⟩
def qm1 : List SOp := [zM 147 16,zG 2 147]
instance : Live qm1 := ⟨[0,1,3,4,10,11,16]⟩
def qka : SC :=
 (.block 1 (.seq (.ops false qzs) (.seq (.seq (.ops false qzr) (.cond (.tmp 25) (.seq (.ops false qzq) .ret) .skip)) (.seq (.seq (.ops false qzp) (.cond (.tmp 32) (.seq (.ops false qzo) .ret) .skip)) (.seq (.seq (.ops false qzn) (.cond (.tmp 39) (.seq (.ops false qzm) (.ops false qmm)) .skip)) (.seq (.ops false qml) (.seq (.seq (.ops false qmk) (.cond (.tmp 56) (.seq (.ops false qmj) (.seq (.ops false qmi) (.ops false qmh))) .skip)) (.seq (.seq (.ops false qmg) (.cond (.tmp 75) (.seq (.ops false qmf) (.cond (.tmp 80) .ret .skip)) .skip)) (.seq (.seq (.ops true qme) (.cond (.tmp 97) (.seq (.ops false qmd) (.seq (.ops false qmc) (.exit 1))) .skip)) (.seq (.ops false qmb) (.seq (.ops false qma) (.seq (.ops false qm9) (.seq (.ops false qm8) (.seq (.ops false qm7) (.cond (.tmp 125) (.seq (.ops false qm6) (.seq (.ops false qm5) (.ops false qm4))) (.seq (.ops false qm3) (.seq (.ops false qm2) (.ops false qm1))))))))))))))))))
def t_k163 : SC :=
 (.seq (.ops false qzu) (.seq (.ops false qzt) (.block 0 (.loop qka))))
theorem it_k163 : FnIs Tryz.prog 163 148 [] t_k163 := ⟨Tryz.f163, _, Tryz.func163, rfl, rfl, rfl, rfl, by kernel_rfl⟩

def z3l : List SOp := [zM 5 0,zO 6 (.call ⟨.builtin .len,#[.tmp 5],#[27]⟩),zG 4 6]
instance : Live z3l := ⟨[0,1]⟩
def z3k : List SOp := [zM 7 0,zM 8 4,zM 9 4,zO 10 (.convert 3 204 (.tmp 9)),zO 11 (.call ⟨.value (.func 164),#[.tmp 10],#[204]⟩),zM 12 1,zO 13 (.call ⟨.value (.func 163),#[.tmp 7,.const (.int .i64 0),.tmp 8,.tmp 11,.tmp 12],#[27,3,3,3,148]⟩)]
instance : Live z3k := ⟨[0,1,4]⟩
def t_k142 : SC :=
 (.seq (.ops false z3l) (.ops false z3k))
theorem zpz : FnIs Tryz.prog 142 14 [] t_k142 := ⟨Tryz.f142, _, Tryz.func142, rfl, rfl, rfl, rfl, by kernel_rfl⟩

def z3j : List SOp := [zO 4 (.assign (.const (.slice none 0 0)))]
instance : Live z3j := ⟨[0,1]⟩
def z3i : List SOp := [zM 8 0,zO 9 (.call ⟨.builtin .len,#[.tmp 8],#[27]⟩),zO 10 (.binOp .lss 3 (.tmp 9) (.const (.int .i64 2)) 3)]
instance : Live z3i := ⟨[0,1]⟩
def z3h : List SOp := [zM 11 0,zG 4 11]
instance : Live z3h := ⟨[0]⟩
def z3g : List SOp := [zO 5 (.assign (.const (.int .i64 1)))]
instance : Live z3g := ⟨[0,1]⟩
def z3f : List SOp := [zM 12 5,zM 13 0,zO 14 (.call ⟨.builtin .len,#[.tmp 13],#[27]⟩),zO 15 (.binOp .lss 3 (.tmp 12) (.tmp 14) 3)]
instance : Live z3f := ⟨[0,1,5]⟩
def z3e : List SOp := [zM 18 1,zM 19 0,zM 20 5,zI 21 27 19 20,zL 22 91 21,zM 23 0,zM 24 5,zO 25 (.binOp .sub 3 (.tmp 24) (.const (.int .i64 1)) 3),zI 26 27 23 25,zL 27 91 26,zO 28 (.call ⟨.value (.tmp 18),#[.tmp 22,.tmp 27],#[91,91]⟩)]
instance : Live z3e := ⟨[0,1,5]⟩
def z3d : List SOp := [zM 29 0,zM 30 5,zO 31 (.slice 27 (.tmp 29) (some (.tmp 30)) none none),zG 6 31]
instance : Live z3d := ⟨[0,1,5]⟩
def z3c : List SOp := [zO 7 (.assign (.const (.int .i64 1)))]
instance : Live z3c := ⟨[0,1,5,6]⟩
def z3b : List SOp := [zM 32 7,zM 33 6,zO 34 (.call ⟨.builtin .len,#[.tmp 33],#[27]⟩),zO 35 (.binOp .lss 3 (.tmp 32) (.tmp 34) 3)]
instance : Live z3b := ⟨[0,1,5,6,7]⟩
def qnw : List SOp := [zM 38 1,zM 39 6,zM 40 7,zI 41 27 39 40,zL 42 91 41,zM 43 6,zM 44 7,zO 45 (.binOp .sub 3 (.tmp 44) (.const (.int .i64 1)) 3),zI 46 27 43 45,zL 47 91 46,zO 48 (.call ⟨.value (.tmp 38),#[.tmp 42,.tmp 47],#[91,91]⟩),zO 49 (.unOp .not 4 (.tmp 48))]
instance : Live qnw := ⟨[0,1,5,6,7]⟩
def qnv : List SOp := [zM 50 0,zM 51 5,zM 52 6,zM 53 7,zI 54 27 52 53,zL 55 91 54,zI 56 27 50 51,⟨none,.store 91 (.tmp 56) (.tmp 55),none⟩]
instance : Live qnv := ⟨[0,1,5,6,7]⟩
def qnu : List SOp := [zM 57 5,zO 58 (.binOp .add 3 (.tmp 57) (.const (.int .i64 1)) 3),zG 5 58]
instance : Live qnu := ⟨[0,1,5,6,7]⟩
def qnt : List SOp := [zM 36 7,zO 37 (.binOp .add 3 (.tmp 36) (.const (.int .i64 1)) 3),zG 7 37]
instance : Live qnt := ⟨[0,1,5,6,7]⟩
def qns : List SOp := [zM 59 0,zM 60 5,zO 61 (.slice 27 (.tmp 59) (some (.tmp 60)) none none),⟨none,.call ⟨.builtin .clear,#[.tmp 61],#[27]⟩,none⟩]
instance : Live qns := ⟨[0,5]⟩
def qnr : List SOp := [zM 62 0,zM 63 5,zO 64 (.slice 27 (.tmp 62) none (some (.tmp 63)) none),zG 4 64]
instance : Live qnr := ⟨[0,5]⟩
def qnq : List SOp := [zM 16 5,zO 17 (.binOp .add 3 (.tmp 16) (.const (.int .i64 1)) 3),zG 5 17]
instance : Live qnq := ⟨[0,1,5]⟩
def qnp : List SOp := [zM 65 0,zG 4 65]
instance : Live qnp := ⟨[0]⟩
def qkk : SC :=
 (.seq (.seq (.ops false z3b) (.cond (.tmp 35) .skip (.exit 2))) (.seq (.block 3 (.seq (.ops true qnw) (.cond (.tmp 49) (.seq (.ops false qnv) (.ops false qnu)) .skip))) (.ops false qnt)))
def qkl : SC :=
 (.seq (.seq (.ops false z3f) (.cond (.tmp 15) .skip (.exit 0))) (.seq (.block 1 (.seq (.ops true z3e) (.cond (.tmp 28) (.seq (.ops false z3d) (.seq (.seq (.ops false z3c) (.block 2 (.loop qkk))) (.seq (.ops false qns) (.seq (.ops false qnr) .ret)))) .skip))) (.ops false qnq)))
def zer : SC :=
 (.seq (.ops false z3j) (.seq (.seq (.ops false z3i) (.cond (.tmp 10) (.seq (.ops false z3h) .ret) .skip)) (.seq (.seq (.ops false z3g) (.block 0 (.loop qkl))) (.seq (.ops false qnp) .ret))))
theorem zpy : FnIs Tryz.prog 143 66 [.tmp 4] zer := ⟨Tryz.f143, _, Tryz.func143, rfl, rfl, rfl, rfl, by kernel_rfl⟩

theorem qj2 (xs : List AVal) (h : Int) (hh : h ≤ 1) (g : FuncId) (hs : q0k xs = true) : Ev (En Tryz.prog rfl).P 174 [.sl 3 xs, .int .i64 0, .int .i64 h, .fn g []] (.ret (.tup [])) := by
 refine Ev.of_body it_k174 (by simp) (Run.start ?_)
 unfold t_k174
 have hS := hs
 (have hF := True.intro; refine q01 (k:=?_); clear hF)
 refine Run.while (σ := Nat) (fun i => ⟨tms [(0, .sl 3 xs), (1, .int .i64 0), (2, .int .i64 h), (3, .fn g []), (8, .int .i64 1)], mms []⟩) (fun i => True) (fun i => 0) 0 (have hW := @hs; q0g) trivial ?_
 intro i _
 unfold qk3
 (have hF := True.intro; refine q01 (k:=?_); clear hF)
 exact Fin.done ⟨[], rfl, rfl, [], trivial, rfl⟩
theorem ev_pdq1 (xs : List AVal) (h lim : Int) (h0 : 0 ≤ h) (hh : h ≤ 1) (g : FuncId) (hs : q0k xs = true) : Ev (En Tryz.prog rfl).P 163 [.sl 3 xs, .int .i64 0, .int .i64 h, .int .i64 lim, .fn g []] (.ret (.tup [])) := by
 refine Ev.of_body it_k163 (by simp) (Run.start ?_)
 unfold t_k163
 have hS := hs
 have c1 := qj2 xs h hh g hs
 (have hF := True.intro; refine q01 (k:=?_); clear hF)
 refine Run.while (σ := Nat) (fun i => ⟨tms [(0, .sl 3 xs), (1, .int .i64 0), (2, .int .i64 h), (3, .int .i64 lim), (4, .fn g [])], mms []⟩) (fun i => True) (fun i => 0) 0 (have hW := @hs; q0g) trivial ?_
 intro i _
 unfold qka
 (have hF := True.intro; refine q01 (k:=?_); clear hF)
 refine q00 [.sl 3 xs, .int .i64 0, .int .i64 h, .fn g []] (he := c1) (k:=?_)
 (have hF := True.intro; refine q01 (k:=?_); clear hF)
 exact Fin.done ⟨[], rfl, rfl, [], trivial, rfl⟩
theorem ev_len64 (x : Int) (h0 : x = 0 ∨ x = 1) : Ev (En Tryz.prog rfl).P 183 [.int .u64 x] (.ret (.int .i64 x)) := by
 refine Ev.of_body it_k183 (by simp) (Run.start ?_)
 unfold t_k183
 rcases h0 with rfl | rfl
 ·(have hF := True.intro; refine q01 (k:=?_); clear hF)
  exact Fin.tmp' (by with_unfolding_all rfl) rfl
 ·(have hF := True.intro; refine q01 (k:=?_); clear hF)
  exact Fin.tmp' (by with_unfolding_all rfl) rfl
theorem ev_len (x : Int) (h0 : x = 0 ∨ x = 1) : Ev (En Tryz.prog rfl).P 164 [.int .u64 x] (.ret (.int .i64 x)) := by
 refine Ev.of_body it_k164 (by simp) (Run.start ?_)
 unfold t_k164
 (have hF := True.intro; refine q01 (k:=?_); clear hF)
 refine q00 [.int .u64 x] (he := ev_len64 x h0) (k:=?_)
 (have hF := True.intro; refine q01 (k:=?_); clear hF)
 exact Fin.tmp' rfl rfl
theorem ev_sort1 (xs : List AVal) (hl : xs.length ≤ 1) (g : FuncId) (hs : q0k xs = true) : Ev (En Tryz.prog rfl).P 142 [.sl 3 xs, .fn g []] (.ret (.tup [])) := by
 refine Ev.of_body zpz (by simp) (Run.start ?_)
 unfold t_k142
 have hS := hs
 have c1 := ev_len xs.length (by omega)
 have c2 := ev_pdq1 xs xs.length xs.length (by omega) (by omega) g hs
 have hwr : IntKind.u64.wrap (xs.length : Int) = (xs.length : Int) := by
  rcases Nat.lt_or_ge xs.length 1 with h | h
  ·rw [show xs.length = 0 by omega]; rfl
  ·rw [show xs.length = 1 by omega]; rfl
 (have hF := @hwr; refine q01 (k:=?_); clear hF)
 refine q00 [.int .u64 xs.length] (he := c1) (k:=?_)
 (have hF := True.intro; refine q01 (k:=?_); clear hF)
 refine q00 [.sl 3 xs, .int .i64 0, .int .i64 xs.length, .int .i64 xs.length, .fn g []] (he := c2) (k:=?_)
 (have hF := True.intro; refine q01 (k:=?_); clear hF)
 exact Fin.done ⟨[], rfl, rfl, [], trivial, rfl⟩
theorem qsu (xs : List AVal) (hl : xs.length ≤ 1) (g : FuncId) (hs : q0k xs = true) : Ev (En Tryz.prog rfl).P 143 [.sl 3 xs, .fn g []] (.ret (.sl 3 xs)) := by
 refine Ev.of_body zpy (by simp) (Run.start ?_)
 unfold zer
 (have hF := True.intro; refine q01 (k:=?_); clear hF)
 exact Fin.tmp' rfl hs

def z81 : List SOp := [zO 2 (.assign (.const (.slice none 0 0))),zO 3 (.assign (.const (.int .i64 0)))]
instance : Live z81 := ⟨[0]⟩
def z80 : List SOp := [zO 4 (.assign (.const (.slice none 0 0)))]
instance : Live z80 := ⟨[0]⟩
def z7z : List SOp := [zM 7 0,zO 8 (.call ⟨.builtin .len,#[.tmp 7],#[27]⟩),zO 9 (.move (.const (.int .i64 0)))]
instance : Live z7z := ⟨[0,4]⟩
def z7y : List SOp := [zO 10 (.binOp .lss 3 (.tmp 9) (.tmp 8) 3)]
instance : Live z7y := ⟨[4,7,8,9]⟩
def z7x : List SOp := [zI 11 27 7 9,zL 12 91 11,zO 6 (.alloc 91),⟨none,.store 91 (.tmp 6) (.tmp 12),none⟩]
instance : Live z7x := ⟨[4,7,8,9]⟩
def z7w : List SOp := [zF 13 91 6 0,zL 14 9 13,zO 15 (.binOp .neq 9 (.tmp 14) (.const (.string ⟨#[]⟩)) 9),zM 16 15,⟨some 17,.fieldAddr 91 (.tmp 6) 0,some ((some 16),true)⟩,⟨some 18,.load 9 (.tmp 17),some ((some 16),true)⟩,⟨some 19,.call ⟨.value (.func 137),#[.tmp 18],#[9]⟩,some ((some 16),true)⟩,⟨some 20,.unOp .not 4 (.tmp 19),some ((some 16),true)⟩,zO 21 (.pick (.tmp 16) (.tmp 20) (.const (.bool false)))]
instance : Live z7w := ⟨[4,6,7,8,9]⟩
def z7v : List SOp := [zO 2 (.assign (.const (.slice none 0 0))),zO 3 (.assign (.const (.int .i64 5)))]
instance : Live z7v := ⟨[]⟩
def z7u : List SOp := [zF 22 91 6 1,zL 23 26 22,zO 24 (.call ⟨.value (.func 92),#[.tmp 23],#[26]⟩),zO 25 (.unOp .not 4 (.tmp 24))]
instance : Live z7u := ⟨[4,6,7,8,9]⟩
def z7t : List SOp := [zM 26 4,zL 27 91 6,zO 28 (.call ⟨.value (.func 108),#[.tmp 27],#[91]⟩),zO 29 (.buildSlice 27 1 #[(0,.tmp 28)]),zO 30 (.call ⟨.builtin .append,#[.tmp 26,.tmp 29],#[27,27]⟩),zG 4 30]
instance : Live z7t := ⟨[4,6,7,8,9]⟩
def qpa : List SOp := [zO 31 (.binOp .add 3 (.tmp 9) (.const (.int .i64 1)) 3),zM 9 31]
instance : Live qpa := ⟨[4,7,8,9]⟩
def qp9 : List SOp := [zM 32 4,zO 33 (.call ⟨.value (.func 142),#[.tmp 32,.func 106],#[27,148]⟩)]
instance : Live qp9 := ⟨[4]⟩
def qp8 : List SOp := [zM 34 4,zO 35 (.call ⟨.value (.func 143),#[.tmp 34,.func 144],#[27,164]⟩),zG 2 35,zO 3 (.assign (.const (.int .i64 0)))]
instance : Live qp8 := ⟨[4]⟩
def ql1 : SC :=
 (.seq (.ops false z7y) (.seq (.cond (.tmp 10) .skip (.exit 0)) (.seq (.block 1 (.seq (.ops false z7x) (.seq (.seq (.ops false z7w) (.cond (.tmp 21) (.seq (.ops false z7v) .ret) .skip)) (.seq (.ops false z7u) (.cond (.tmp 25) (.ops false z7t) .skip))))) (.ops false qpa))))
def t_k113 : SC :=
 (.seq (.ops false z81) (.seq (.ops false z80) (.seq (.seq (.ops false z7z) (.block 0 (.loop ql1))) (.seq (.ops false qp9) (.seq (.ops false qp8) .ret)))))
theorem it_k113 : FnIs Tryz.prog 113 36 [.tmp 2, .tmp 3] t_k113 := ⟨Tryz.f113, _, Tryz.func113, rfl, rfl, rfl, rfl, by kernel_rfl⟩

def q5y (l : List Rec) : List Rec := (l.filter fun r => !decide (q2x r.past = 0)).map fun r => ⟨r.sku, q1g r.past⟩
theorem zd3 {l : List Rec} {i : Nat} {r : Rec} (h : l[i]? = some r) : q5y (l.take (i + 1)) = q5y (l.take i) ++ if q2x r.past = 0 then [] else [⟨r.sku, q1g r.past⟩] := by
 unfold q5y
 rw [List.take_add_one, h, List.filter_append, List.map_append]
 by_cases hc : q2x r.past = 0 <;> simp [hc]
theorem qq7 (l : List Rec) : (q5y l).length ≤ l.length := by
 unfold q5y
 rw [List.length_map]
 exact List.length_filter_le _ _

section
open Go.Shelf Go.RowKit Go.Lib Go.Sort
theorem SWO.pull {α β : Type} {lt : α → α → Bool} (h : SWO lt) (f : β → α) : SWO fun x y => lt (f x) (f y) :=
 ⟨fun x => h.irrefl _, fun x y z => h.trans _ _ _, fun x y z => h.ntrans _ _ _⟩
section
variable {P : Program} {ρ : Ren} {τ : Type}
theorem sortOwnR (L : SlLaysF0.n6 P ρ) (hc6 : Callable P (ρ.f 6)) (k : Nat) (h0k : 0 < k) (aE : ∀ w, (isAgg (ρ.t 24)).run P w = .ok true w) (zE : ∀ w, (Go.sizeOf (ρ.t 24)).run P w = .ok k w)
 (c : τ → List AVal) (hk : ∀ x, (c x).length = k) (hst : ∀ x, q0k (c x) = true) (h1c : ∀ x, ∀ y ∈ c x, y.one = true) (cf : τ → τ → Int) (hO : SWO (ltOf cf)) (g : FuncId) (l : List τ) (hl0 : 0 < l.length) (hl : l.length < 4611686018427387904)
 (hcmp : ∀ x ∈ l, ∀ y ∈ l, Ev P g [.agg (c x), .agg (c y)] (.ret (.int .i64 (cf x y)))) :
 ∃ s : List τ, s.Perm l ∧ s.Pairwise (fun x y => ltOf cf y x = false) ∧ EvOwn P (ρ.f 6) [.undef, .fn g []] 0 k (l.map fun x => .agg (c x)) false (.tup []) (s.map fun x => .agg (c x)) := by
 let τ' := _root_.Fin l.length
 let lx : τ' → τ := fun i => l[i]
 letI : Inhabited τ' := ⟨⟨0, hl0⟩⟩
 let cf' : τ' → τ' → Int := fun i j => cf (lx i) (lx j)
 let c' : τ' → List AVal := fun i => c (lx i)
 have hO' : SWO (ltOf cf') := SWO.pull hO lx
 have hmem : ∀ i : τ', lx i ∈ l := fun i => List.getElem_mem _
 have hdl : (List.finRange l.length).map lx = l := by
  apply List.ext_getElem
  ·rw [List.length_map, List.length_finRange]
  ·intro i h1 h2
   rw [List.getElem_map, List.getElem_finRange]
   rfl
 let d : Array τ' := (List.finRange l.length).toArray
 let d' := pdq (ltOf cf') d 0 d.size (Lib.bitLen d.size) true true
 have hds : d.size = l.length := by
  show (List.finRange l.length).toArray.size = _
  rw [List.size_toArray, List.length_finRange]
 obtain ⟨hp, hsrt⟩ := pdq_sorts (ltOf cf') hO' d 0 d.size (Lib.bitLen d.size) true true (Nat.zero_le _) (Nat.le_refl _) (Or.inl rfl)
 have hsz' : d'.size = d.size := hp.1
 have hperm : d'.toList.Perm (List.finRange l.length) := by
  have := hp.2.2
  have e : ∀ (x : Array τ') (n : Nat), x.size = n → x.extract 0 n = x := by rintro x n rfl; exact Array.extract_size
  rw [e d _ rfl, e _ _ hsz'] at this
  simpa [d] using this
 have hpw : d'.toList.Pairwise (fun x y => ltOf cf' y x = false) := by
  rw [List.pairwise_iff_getElem]
  intro i j hi hj hij
  have h1 : i < d'.size := by simpa using hi
  have h2 : j < d'.size := by simpa using hj
  have := hsrt i j (Nat.zero_le _) hij (by rw [← hsz']; exact h2)
  rw [show (pdq (ltOf cf') d 0 d.size (Lib.bitLen d.size) true true) = d' from rfl, getElem!_pos d' i h1, getElem!_pos d' j h2] at this
  simpa using this
 refine ⟨d'.toList.map lx, ?_, ?_, hc6, fun B w vs G hkey hvs hv hown hB hol => ?_⟩
 ·have := hperm.map lx
  rwa [hdl] at this
 ·rw [List.pairwise_map]
  exact hpw
 obtain ⟨v0, hv0, hown⟩ := hown
 obtain ⟨v1, hv1⟩ : ∃ v, vs[1]? = some v := ⟨vs[1]'(by rw [hvs]; simp), by simp [hvs]⟩
 have hfn := hv 1 (.fn g []) v1 (by decide) rfl hv1
 have hf1 : v1 = .func (.func g) #[] #[] := by
  cases hfn with
  | fn _ _ ws hl0 _ =>
   have : ws = #[] := Array.eq_empty_of_size_eq_zero (by simpa using hl0)
   rw [this]
 have hvs' : vs = #[v0, v1] := by
  have h2 : vs.size = 2 := hvs
  apply Array.ext_getElem?
  intro i
  match i with
  | 0 => simpa using hv0
  | 1 => simpa using hv1
  | i + 2 => rw [Array.getElem?_eq_none (by omega)]; simp
 rw [hvs', hf1]
 rcases hown with ⟨rfl, hnil⟩ | ⟨b, off, cap, cc, el, hb1, hb2, hb3, hb4, hb5, hb6, hb7, hb8, hb9⟩
 ·have : l = [] := by simpa using hnil
  rw [this] at hl0
  simp at hl0
 ·rw [q4b] at hb8 hb9
  have hblk : b < w.heap.size := by
   rcases Nat.lt_or_ge b w.heap.size with h | h
   ·exact h
   ·rw [Array.getElem?_eq_none h] at hb5; cases hb5
  have hlen : (l.map fun x => AVal.agg (c x)).length = l.length := by simp
  rw [hlen] at hb1 hb2
  have hroom : off + l.length * k ≤ cc.size := by
   have := Nat.mul_le_mul_right k hb2
   omega
  let enc : τ' → List Value := fun i => (List.range k).map fun j => cc.getD (off + (i.val * k + j)) undef
  have hek : ∀ x, (enc x).length = k := fun x => by simp [enc]
  have cellE : ∀ (i : τ') (j : Nat) (y : AVal), (c' i)[j]? = some y → ∃ u, (enc i)[j]? = some u ∧ cc[off + (i.val * k + j)]? = some u ∧ VR (Dm NoM) G B w y u := by
   intro i j y hy
   have hj : j < k := by
    rw [← hk (lx i)]
    rcases Nat.lt_or_ge j (c' i).length with h | h
    ·exact h
    ·rw [List.getElem?_eq_none h] at hy; cases hy
   obtain ⟨u, hu, hr⟩ := hb9 (i.val * k + j) y (by rw [qbp hk (x := lx i) (List.getElem?_eq_getElem i.isLt) hj]; exact hy)
   exact ⟨u, by simp [enc, hj, hu], hu, hr⟩
  have encOf : ∀ (i : τ') (u : Value), u ∈ enc i → ∃ (j : Nat) (y : AVal), (c' i)[j]? = some y ∧ (enc i)[j]? = some u := by
   intro i u hu
   obtain ⟨j, hj, hu'⟩ := List.getElem_of_mem hu
   have hj' : j < (c' i).length := by rw [hk]; rwa [hek] at hj
   exact ⟨j, _, List.getElem?_eq_getElem hj', by rw [← hu']; exact List.getElem?_eq_getElem hj⟩
  have he1 : ∀ x, ∀ v ∈ enc x, v.oneCell' = true := fun x v hv => by
   obtain ⟨j, y, hy, hu⟩ := encOf x v hv
   obtain ⟨u, hu2, _, hr⟩ := cellE x j y hy
   rw [hu] at hu2
   cases hu2
   exact hr.oneCell (h1c (lx x) y (List.mem_of_getElem? hy))
  have cellv : ∀ (m : Array τ') (t : Nat), t < m.size * k → ∃ (x : τ') (y : AVal) (u : Value), m.toList[t / k]? = some x ∧ (c' x)[t % k]? = some y ∧ ((m.toList.map lx).flatMap c)[t]? = some y ∧ (flatK enc k m)[t]! = u ∧ cc[off + (x.val * k + t % k)]? = some u ∧ VR (Dm NoM) G B w y u := by
   intro m t ht
   have h1 : t / k < m.size := Nat.div_lt_of_lt_mul (by rw [Nat.mul_comm]; exact ht)
   have h2 : t % k < k := Nat.mod_lt _ h0k
   have hx : m.toList[t / k]? = some m[t / k] := by simp [h1]
   have hy : (c' m[t / k])[t % k]? = some ((c' m[t / k])[t % k]'(by rw [hk]; exact h2)) := by simp [hk, h2]
   obtain ⟨u, hu1, hu2, hr⟩ := cellE m[t / k] (t % k) _ hy
   refine ⟨m[t / k], _, u, hx, hy, ?_, ?_, hu2, hr⟩
   ·have hx' : (m.toList.map lx)[t / k]? = some (lx m[t / k]) := by rw [List.getElem?_map, hx]; rfl
    rw [← hy, ← qbp hk hx' h2, Nat.mul_comm, Nat.div_add_mod]
   ·rw [get_flatK _ _ _ _ ht, getElem!_pos m _ h1, getElem!_pos (enc m[t / k]) _ (by rw [hek]; exact h2)]
    rw [List.getElem?_eq_getElem (by rw [hek]; exact h2)] at hu1
    exact Option.some.inj hu1
  have hdget : ∀ (t : Nat) (x : τ'), d.toList[t]? = some x → x.val = t := by
   intro t x hx
   have hx : (List.finRange l.length)[t]? = some x := hx
   rw [List.getElem?_eq_some_iff] at hx
   obtain ⟨h1, h2⟩ := hx
   rw [List.getElem_finRange] at h2
   rw [← h2]
   rfl
  have hH : HoldsK enc k w b off d := by
   intro t ht
   rw [size_flatK, hds] at ht
   obtain ⟨x, y, u, e1, e2, e3, e4, e5, e6⟩ := cellv d t (by rw [hds]; exact ht)
   have hx := hdget _ _ e1
   have hidx : x.val * k + t % k = t := by rw [hx, Nat.mul_comm]; exact Nat.div_add_mod t k
   rw [hidx] at e5
   refine ⟨?_, ?_⟩
   ·rw [q3k hb5, e5, e4]; rfl
   ·simp [World.frozen?, hb5]
  have hbg : G.ow b ≠ none := by rw [hb3]; simp
  have hwk : ∀ (m : Nat) (os : Array Obj) (dk : Array τ') (b' : Nat), b' < w.heap.size → (sortWorldK enc k w b off m dk os).heap[b']? = if b' = b then some (.cells (putCells id off (flatK enc k dk) cc) el (0, 0)) else w.heap[b']? := by
   intro m os dk b' hb'
   simp only [sortWorldK, grow, putRowK, putRow, mapBlock, Sort.ahead]
   rw [Array.getElem?_append_left (by simpa using hb'), Array.getElem?_modify]
   by_cases hbb : b = b'
   ·subst hbb
    rw [if_pos rfl, if_pos rfl, hb5]
    rfl
   ·rw [if_neg hbb, if_neg (Ne.symm hbb)]
  have hstw : ∀ (m : Nat) (os : Array Obj) (dk : Array τ') (G' : Gh) (B' : Nat → Prop), (∀ b', G.ow b' = none → G'.ow b' = none) → (∀ b', B' b' → B b') → ∀ (y : AVal) (u : Value), y.stb = true → VR (Dm NoM) G B w y u → VR (Dm NoM) G' B' (sortWorldK enc k w b off m dk os) y u := by
   intro m os dk G' B' hG hBB y u hy hr
   refine hr.stable (fun b' hb' hn ho => ⟨?_, fun hc => hn (hBB _ hc), hG _ ho⟩) hy
   rw [hwk m os dk b' hb', if_neg]
   rintro rfl
   exact hbg ho
  have hlays : CmpLays P g #[] enc k cf' b off d.size w := by
   intro m os dk hdk x y
   have hone : ∀ x : τ', VR (Dm NoM) { G with ow := fun _ => none } (fun _ => False) (sortWorldK enc k w b off m dk os) (.agg (c' x)) (.agg (enc x).toArray) := fun x => by
    refine .agg _ _ (by simp [hek, c', hk]) fun n z v hz hv => ?_
    obtain ⟨u, hu, _, hr⟩ := cellE x n z hz
    rw [List.getElem?_toArray, hu] at hv
    rw [← Option.some.inj hv]
    exact hstw m os dk _ _ (fun _ _ => rfl) (fun _ h => False.elim h) z u (q49 (hst (lx x)) hz) hr
   have hE := (hcmp _ (hmem x) _ (hmem y)).2 (fun _ => False) (sortWorldK enc k w b off m dk os) #[.agg (enc x).toArray, .agg (enc y).toArray] { G with ow := fun _ => none } (fun _ => rfl) rfl (fun i z v hz hv => ?_) (fun _ h => h.elim)
   ·refine hE.mono ?_
    rintro e w' ⟨G', v', hG', hA, he, hr⟩
    cases hr
    exact ⟨he, hA.grown (fun _ => rfl)⟩
   ·match i with
    | 0 => simp at hz hv; subst hz; subst hv; exact hone x
    | 1 => simp at hz hv; subst hz; subst hv; exact hone y
    | i + 2 => simp at hz
  have eg : ∀ args w, (callFunc g args).run P w = .ok (.enter g args) w := fun args w => by
   obtain ⟨fn, hfn, hnm, hbd⟩ := (hcmp _ (hmem default) _ (hmem default)).1.ok
   have e1 : (fn.name = "runtime.NumGoroutine") = False := by simpa using hnm
   have e2 : (fn.body = none) = False := by simp only [eq_iff_iff, iff_false]; intro hn; rw [hn] at hbd; simp at hbd
   simp [callFunc, hfn, e1, e2]
  have hmain := AnyQ.slices_SortFunc_eq L k aE zE enc hek he1 cf' hO' g #[] b off cap d w eg hlays hH hblk (by rw [hds]; exact hl)
  rw [hb1, show l.length = d.size by rw [hds]]
  refine hmain.mono ?_
  rintro e w' ⟨rfl, n, os, hw'⟩
  have hw0 : ∀ b', b' < w.heap.size → w'.heap[b']? = if b' = b then some (.cells (putCells id off (flatK enc k d') cc) el (0, 0)) else w.heap[b']? := by
   intro b' hb'
   rw [hw']
   exact hwk _ _ _ _ hb'
  have hsize : w.heap.size ≤ w'.heap.size := by
   rw [hw']
   simp [sortWorldK, grow, putRowK, putRow, mapBlock, Sort.ahead]
  have hkeep : ∀ b', b' < w.heap.size → G.ow b' = none → w'.heap[b']? = w.heap[b']? ∧ G.ow b' = none := fun b' hb' ho => by
   refine ⟨?_, ho⟩
   rw [hw0 b' hb', if_neg]
   rintro rfl
   rw [hb3] at ho; cases ho
  have hA : Adv G w G w' := ⟨by rw [hw']; exact ⟨rfl, Nat.le_add_right _ _⟩, by rw [hw']; rfl, by rw [hw']; rfl, hsize, hkeep⟩
  refine ⟨G, .tuple #[], v0, rfl, hkey, fun b' hb' => Nat.lt_of_lt_of_le (hol b' hb') hsize, hA, .inr ⟨b, off, cap, putCells id off (flatK enc k d') cc, el, ?_, ?_, hb3, hb4, ?_, ?_, ?_, ?_, ?_⟩, fun h => (by cases h), fun _ => ⟨by simp [hb1, hds], .tup [] #[] rfl fun n x v hx => by simp at hx⟩⟩
  ·rw [hb1]; simp [hsz', hds]
  ·simp only [List.length_map, Array.length_toList, hsz', hds]; exact hb2
  ·rw [hw0 b hblk, if_pos rfl]
  ·simp only [putCells, Array.size_mapIdx]; exact hb6
  ·intro x hx
   obtain ⟨z, _, rfl⟩ := List.mem_map.1 hx
   exact hk z
  ·intro x hx
   rw [q4b] at hx
   obtain ⟨z, _, hz⟩ := List.mem_flatMap.1 hx
   exact h1c z x hz
  ·intro t x hx
   rw [q4b] at hx
   have htl : t < d'.size * k := by
    have h1 : t < ((d'.toList.map lx).flatMap c).length := by
     rcases Nat.lt_or_ge t ((d'.toList.map lx).flatMap c).length with h | h
     ·exact h
     ·rw [List.getElem?_eq_none h] at hx; cases hx
    rwa [← q4b, q0p (sz := k) (fun y hy => by obtain ⟨z, _, rfl⟩ := List.mem_map.1 hy; exact hk z), List.length_map, List.length_map, Array.length_toList] at h1
   obtain ⟨z, y, u, e1, e2, e3, e4, e5, e6⟩ := cellv d' t htl
   rw [hx] at e3
   cases e3
   have hlt : off + t < cc.size := by rw [hsz', hds] at htl; omega
   refine ⟨u, ?_, ?_⟩
   ·simp only [putCells, Array.getElem?_mapIdx, Array.getElem?_eq_getElem hlt, Option.map_some]
    rw [if_pos ⟨by omega, by rw [size_flatK]; omega⟩, show off + t - off = t by omega, e4]
    rfl
   ·rw [hw']
    exact hstw _ _ _ G B (fun _ h => h) (fun _ h => h) x u (q49 (hst (lx z)) e2) e6
end
end
section
open Go.Proofs Go.Shelf Go.RowKit Go.Lib Go.Sort
def qew : Go.Shelf.Ren := ⟨fun | 6 => 142 | 15 => 164 | 14 => 163 | 28 => 182 | 29 => 183 | 20 => 174 | 21 => 175 | 22 => 176 | 23 => 177 | 24 => 178 | 25 => 179 | 26 => 180 | 27 => 181 | 46 => 188 | 47 => 189 | 48 => 190 | 49 => 191 | 50 => 192 | 57 => 197 | n => n, fun | 22 => 27 | 24 => 91 | 25 => 148 | 3 => 3 | 39 => 204 | 0 => 0 | 53 => 220 | 55 => 79 | 4 => 4 | 46 => 213 | 45 => 212 | 50 => 217 | 5 => 5 | 9 => 9 | 66 => 227 | 70 => 231 | 76 => 234 | 77 => 205 | n => n, fun | n => n⟩
theorem qsd : Go.Proofs.SlLaysF0.n6 Tryz.prog qew where
 mixed := by kernel_rfl
 f6 := ⟨Tryz.f142.name, by decide, Tryz.func142.trans (congrArg some (by kernel_rfl))⟩
 f14 := ⟨Tryz.f163.name, by decide, Tryz.func163.trans (congrArg some (by kernel_rfl))⟩
 f15 := Tryz.func164.trans (congrArg some (by kernel_rfl))
 f20 := ⟨Tryz.f174.name, by decide, Tryz.func174.trans (congrArg some (by kernel_rfl))⟩
 f21 := ⟨Tryz.f175.name, by decide, Tryz.func175.trans (congrArg some (by kernel_rfl))⟩
 f22 := ⟨Tryz.f176.name, by decide, Tryz.func176.trans (congrArg some (by kernel_rfl))⟩
 f23 := ⟨Tryz.f177.name, by decide, Tryz.func177.trans (congrArg some (by kernel_rfl))⟩
 f24 := ⟨Tryz.f178.name, by decide, Tryz.func178.trans (congrArg some (by kernel_rfl))⟩
 f25 := ⟨Tryz.f179.name, by decide, Tryz.func179.trans (congrArg some (by kernel_rfl))⟩
 f26 := ⟨Tryz.f180.name, by decide, Tryz.func180.trans (congrArg some (by kernel_rfl))⟩
 f27 := ⟨Tryz.f181.name, by decide, Tryz.func181.trans (congrArg some (by kernel_rfl))⟩
 f28 := Tryz.func182.trans (congrArg some (by kernel_rfl))
 f29 := Tryz.func183.trans (congrArg some (by kernel_rfl))
 f46 := ⟨Tryz.f188.name, by decide, Tryz.func188.trans (congrArg some (by kernel_rfl))⟩
 f47 := Tryz.func189.trans (congrArg some (by kernel_rfl))
 f48 := Tryz.func190.trans (congrArg some (by kernel_rfl))
 f49 := ⟨Tryz.f191.name, by decide, Tryz.func191.trans (congrArg some (by kernel_rfl))⟩
 f50 := ⟨Tryz.f192.name, by decide, Tryz.func192.trans (congrArg some (by kernel_rfl))⟩
 f57 := ⟨Tryz.f197.name, by decide, Tryz.func197.trans (congrArg some (by kernel_rfl))⟩
 t0 := Tryz.underlying0
 a0 := Tryz.isAgg0
 z0 := Tryz.sizeOf0
 v0 := Tryz.zeroValue0
 t3 := Tryz.underlying3
 a3 := Tryz.isAgg3
 z3 := Tryz.sizeOf3
 v3 := Tryz.zeroValue3
 t4 := Tryz.underlying4
 a4 := Tryz.isAgg4
 z4 := Tryz.sizeOf4
 v4 := Tryz.zeroValue4
 t5 := Tryz.underlying5
 a5 := Tryz.isAgg5
 z5 := Tryz.sizeOf5
 v5 := Tryz.zeroValue5
 t9 := Tryz.underlying9
 a9 := Tryz.isAgg9
 z9 := Tryz.sizeOf9
 v9 := Tryz.zeroValue9
 t22 := Tryz.underlying27
 a22 := Tryz.isAgg27
 z22 := Tryz.sizeOf27
 v22 := Tryz.zeroValue27
 t25 := Tryz.underlying148
 a25 := Tryz.isAgg148
 z25 := Tryz.sizeOf148
 v25 := Tryz.zeroValue148
 t39 := Tryz.underlying204
 a39 := Tryz.isAgg204
 z39 := Tryz.sizeOf204
 v39 := Tryz.zeroValue204
 t45 := Tryz.underlying212
 a45 := Tryz.isAgg212
 z45 := Tryz.sizeOf212
 v45 := Tryz.zeroValue212
 t46 := Tryz.underlying213
 a46 := Tryz.isAgg213
 z46 := Tryz.sizeOf213
 v46 := Tryz.zeroValue213
 t50 := Tryz.underlying217
 a50 := Tryz.isAgg217
 z50 := Tryz.sizeOf217
 v50 := Tryz.zeroValue217
 t53 := Tryz.underlying220
 a53 := Tryz.isAgg220
 z53 := Tryz.sizeOf220
 v53 := Tryz.zeroValue220
 t55 := Tryz.underlying79
 a55 := Tryz.isAgg79
 z55 := Tryz.sizeOf79
 v55 := Tryz.zeroValue79
 t66 := Tryz.underlying227
 a66 := Tryz.isAgg227
 z66 := Tryz.sizeOf227
 v66 := Tryz.zeroValue227
 t70 := Tryz.underlying231
 a70 := Tryz.isAgg231
 z70 := Tryz.sizeOf231
 v70 := Tryz.zeroValue231
 t76 := Tryz.underlying234
 a76 := Tryz.isAgg234
 z76 := Tryz.sizeOf234
 v76 := Tryz.zeroValue234
 t77 := Tryz.underlying205
 a77 := Tryz.isAgg205
 z77 := Tryz.sizeOf205
 v77 := Tryz.zeroValue205
end
def z3a : List SOp := [zO 2 (.box 91 (.tmp 0)),zO 3 (.box 91 (.tmp 1)),zO 4 (.assign (.const (.bool false)))]
instance : Live z3a := ⟨[0,1]⟩
def z38 : List SOp := [zL 5 91 2,zL 6 91 3,zO 7 (.call ⟨.value (.func 106),#[.tmp 5,.tmp 6],#[91,91]⟩),zO 8 (.binOp .eql 3 (.tmp 7) (.const (.int .i64 0)) 3),zG 4 8]
instance : Live z38 := ⟨[2,3]⟩
def t_k144 : SC :=
 (.seq (.ops false z3a) (.seq (.ops false z38) .ret))
theorem it_k144 : FnIs Tryz.prog 144 9 [.tmp 4] t_k144 := ⟨Tryz.f144, _, Tryz.func144, rfl, rfl, rfl, rfl, by kernel_rfl⟩

section
open Go.Proofs Go.Shelf Go.RowKit Go.Lib Go.Sort
def WkQ (n : Nat) (Q : Ex → AS → Prop) : Ex → AS → Prop
 | .pan x, s => Q (.pan x) s
 | e, s => ∃ s2, Wk n s s2 ∧ Q e s2
theorem AW.wkEnd {E : Env} {n : Nat} {Q : Ex → AS → Prop} {s : AS} {x : SC} (h : AW E n x (WkQ n Q) s) : AW E n x Q s := fun c hc B G a w hR Q' hP =>
 h c hc B G a w hR Q' fun e s1 a' w' G' hA hR' hq => by
  cases e with
  | pan x => exact hP (.pan x) s1 a' w' G' hA hR' hq
  | normal => obtain ⟨s2, hw, hq2⟩ := hq; obtain ⟨G2, h2, a2⟩ := hw B G' a' w' hR'; exact hP .normal s2 a' w' G2 (hA.trans a2) h2 hq2
  | ret => obtain ⟨s2, hw, hq2⟩ := hq; obtain ⟨G2, h2, a2⟩ := hw B G' a' w' hR'; exact hP .ret s2 a' w' G2 (hA.trans a2) h2 hq2
  | exit id => obtain ⟨s2, hw, hq2⟩ := hq; obtain ⟨G2, h2, a2⟩ := hw B G' a' w' hR'; exact hP (.exit id) s2 a' w' G2 (hA.trans a2) h2 hq2
theorem qsn (l : List Rec) (hw : ∀ r ∈ l, wt r.past ≤ 50000000) (h0 : 0 < l.length) (hl : l.length ≤ 1000000000) :
 ∃ s : List Rec, s.Perm l ∧ s.Pairwise (fun a b => q3x a b ≤ 0) ∧ EvOwn (En Tryz.prog rfl).P 142 [.undef, .fn 106 []] 0 3 (q08 l) false (.tup []) (q08 s) := by
 obtain ⟨s, h1, h2, h3⟩ := sortOwnR (τ := Rec) qsd (FnIs.callable zpz) 3 (by decide) Tryz.isAgg91 Tryz.sizeOf91 (fun r => [.str r.sku, .sl 1 (q04 r.past.vec), .sl 3 (q0c r.past.cloud)]) (fun _ => rfl)
  (fun x => by simp [AVal.stb, q0k, q03, q05]) (fun x y hy => by simp at hy; rcases hy with rfl | rfl | rfl <;> rfl) q3x cmpR_SWO 106 l h0 (by omega) (fun x hx y hy => qst x y (hw x hx) (hw y hy))
 refine ⟨s, h1, h2.imp fun {a b} h => ?_, h3⟩
 unfold ltOf at h
 simp only [decide_eq_false_iff_not] at h
 have := q5b a b
 omega
theorem q9f (a b : Rec) (ha : wt a.past ≤ 50000000) (hb : wt b.past ≤ 50000000) : Ev (En Tryz.prog rfl).P 144 [q4w a, q4w b] (.ret (.bool (decide (q3x a b = 0)))) := by
 refine Ev.of_body it_k144 (by simp) (Run.start ?_)
 unfold t_k144
 have c1 := qst a b ha hb
 unfold q4w at c1 ⊢
 have hS := qrk
 (have hF := True.intro; refine q01 (k:=?_); clear hF)
 refine q00 [q4w a, q4w b] (he := c1) (k:=?_)
 (have hF := True.intro; refine q01 (k:=?_); clear hF)
 exact Fin.tmp' rfl rfl
theorem zrt {TE : TyE} {M : Mem} {t el : TypeId} {k e sz i n s1 b1 : Nat} {z1 : Value} {ei : TyI} {xs : List AVal} (ht : TE t = some ⟨.slice el, s1, b1, z1⟩) (he : TE el = some ei) (hM : M k = some (.arr e sz xs)) (hok : ei.okElem = true)
 (hs : sz = ei.size) (h1 : i + n ≤ xs.length) (h0 : 0 < n) : qh9 TE M t (.vw k e sz i n) = some (.tup [], [(k, .arr e sz (xs.take i ++ List.replicate n ei.zeroElem ++ xs.drop (i + n)))]) := by
 simp [qh9, ht, he, hM, hok, hs, h1, h0]
theorem zs5 {E : Env} {Q : Ex → AS → Prop} {r : List SOp} {T : q25} {M : Mem} {a : Tmp} {t el : TypeId} {k e sz i n s1 b1 : Nat} {z1 : Value} {ei : TyI} {xs : List AVal} (hx : T a = .vw k e sz i n) (hM : M k = some (.arr e sz xs)) (ht : E.TE t = some ⟨.slice el, s1, b1, z1⟩) (he : E.TE el = some ei)
 (hok : ei.okElem = true) (hs : sz = ei.size) (h1 : i + n ≤ xs.length) (h0 : 0 < n) (kk : q0f E false none Q r ⟨T, upd M k (some (.arr e sz (xs.take i ++ List.replicate n ei.zeroElem ++ xs.drop (i + n))))⟩) :
 q0f E false none Q (⟨none, .call ⟨.builtin .clear, #[.tmp a], #[t]⟩, none⟩ :: r) ⟨T, M⟩ := by
 have h := zrt ht he hM hok hs h1 h0
 exact dv (v := .tup []) (ups := [(k, .arr e sz (xs.take i ++ List.replicate n ei.zeroElem ++ xs.drop (i + n)))]) rfl (show qh9 E.TE M t (T a) = _ by rw [hx]; exact h) (by simp [qt1, qgf]) rfl kk
theorem zre (l : List Rec) (k : Nat) (s : ByteArray) (v : List Int) (c : List Sn) : (q08 l).set k (.agg [.str s, .sl 1 (q04 v), .sl 3 (q0c c)]) = q08 (l.set k ⟨s, ⟨v, c⟩⟩) := by
 unfold q08
 rw [List.map_set]
 rfl
theorem zdm (l : List Rec) (hw : ∀ r ∈ l, wt r.past ≤ 50000000) (hl : l.length ≤ 1000000000) :
 EvOwn (En Tryz.prog rfl).P 143 [.undef, .fn 144 []] 0 3 (q08 l) true .undef (q08 (cpt l l.length)) := by
 refine EvOwn.of_body zpy (by simp) (AW.wkEnd (Run.start ?_))
 unfold zer qbk
 have e1 := q0j l
 have hS := qrk
 by_cases h2 : l.length < 2
 ·rw [qd9 (Nat.le_refl _) (fun j x y hj => absurd hj (by omega)), List.take_length]
  (have hF := @e1; refine q01 (k:=?_); clear hF)
  exact Fin.done ⟨_, Wk.refl _ _, _, rfl, rfl, q02 _⟩
 ·(have hF := @e1; refine q01 (k:=?_); clear hF)
  refine Run.wk (Wk.view 0 0 0 3 rfl rfl (by rw [e1]; omega)) ?_
  rw [e1]
  have h01 : ((0 + 1 : Nat) : Int) = 1 := rfl
  refine Run.while (σ := Nat) (fun j => ⟨tms [(0, .vw 0 0 3 0 l.length), (1, .fn 144 []), (5, .int .i64 ((j + 1 : Nat) : Int))], mms [(0, .arr 0 3 (q08 l))]⟩)
   (fun j => j + 1 ≤ l.length ∧ ∀ (m : Nat) x y, m + 1 < j + 1 → l[m]? = some y → l[m + 1]? = some x → q3x x y ≠ 0) (fun j => l.length - j) 0 (have hW := (aI @q02 @h01); q0g) ⟨by omega, fun m x y hm => absurd hm (by omega)⟩ ?_
  rintro j ⟨hj, hd⟩
  unfold qkl
  by_cases hlt : j + 1 < l.length
  ·obtain ⟨x, hx⟩ : ∃ x, l[j + 1]? = some x := ⟨l[j + 1], by simp [hlt]⟩
   obtain ⟨y, hy⟩ : ∃ y, l[j]? = some y := ⟨l[j], by simp [show j < l.length by omega]⟩
   have g1 := q0t hx
   have g2 := q0t hy
   have w1 : IntKind.i64.wrap (((j + 1 : Nat) : Int) - 1) = (j : Int) := by rw [q2d (by omega)]; omega
   have n1 : ((j + 1 : Nat) : Int).toNat = j + 1 := Int.toNat_natCast _
   have n2 : (j : Int).toNat = j := Int.toNat_natCast _
   have c1 := q9f x y (hw x (List.mem_of_getElem? hx)) (hw y (List.mem_of_getElem? hy))
   (have hF := (aI (aI @e1 (aI @g1 @g2)) (aI (aI @w1 @n1) (aI @n2 @Nat.zero_add))); refine q01 (k:=?_); clear hF)
   refine q00 [q4w x, q4w y] (he := c1) (k:=?_)
   by_cases hz : q3x x y = 0
   ·rw [decide_eq_true hz]
    (have hF := (aI @e1 (aI @n1 @Nat.zero_add)); refine q01 (k:=?_); clear hF)
    have h01 : ((0 + 1 : Nat) : Int) = 1 := rfl
    have hcp := qd9 (l := l) (n := j + 1) (by omega) hd
    have hcp2 := qd8 (l := l) (n := j + 1) (by omega) hx (by simpa using hy)
    rw [if_pos hz, List.append_nil, hcp] at hcp2
    refine Run.while (σ := Nat × Nat × List Rec) (fun z => ⟨tms [(0, .vw 0 0 3 0 l.length), (1, .fn 144 []), (5, .int .i64 (z.2.1 : Int)), (6, .vw 0 0 3 (j + 1) (l.length - (j + 1))), (7, .int .i64 ((z.1 + 1 : Nat) : Int))], mms [(0, .arr 0 3 (q08 z.2.2))]⟩)
     (fun z => z.1 + 1 ≤ l.length - (j + 1) ∧ z.2.2.length = l.length ∧ 1 ≤ z.2.1 ∧ z.2.1 ≤ j + 1 + z.1 ∧ z.2.2.take z.2.1 = cpt l (j + 1 + (z.1 + 1)) ∧ ∀ m, j + 1 + z.1 ≤ m → z.2.2[m]? = l[m]?) (fun z => l.length - z.1) (0, j + 1, l) (have hW := (aI @q02 @h01); q0g)
     ⟨show 0 + 1 ≤ l.length - (j + 1) by omega, rfl, show 1 ≤ j + 1 by omega, show j + 1 ≤ j + 1 + 0 by omega, by simpa using hcp2.symm, fun _ _ => rfl⟩ ?_
    rintro ⟨q, k, cur⟩ ⟨q1, q2, q3, q4, q5, q6⟩
    simp only at q1 q2 q3 q4 q5 q6
    have e2 := q0j cur
    rw [q2] at e2
    unfold qkk
    by_cases hq : q + 1 < l.length - (j + 1)
    ·obtain ⟨u, hu⟩ : ∃ u, l[j + 1 + (q + 1)]? = some u := ⟨l[j + 1 + (q + 1)], by simp [show j + 1 + (q + 1) < l.length by omega]⟩
     obtain ⟨v, hv⟩ : ∃ v, l[j + 1 + q]? = some v := ⟨l[j + 1 + q], by simp [show j + 1 + q < l.length by omega]⟩
     obtain ⟨o, ho⟩ : ∃ o, cur[k]? = some o := ⟨cur[k]'(by omega), by simp [show k < cur.length by omega]⟩
     have g3 := q0t (show cur[j + 1 + (q + 1)]? = some u by rw [q6 _ (by omega)]; exact hu)
     have g4 := q0t (show cur[j + 1 + q]? = some v by rw [q6 _ (by omega)]; exact hv)
     have g5 := q0t ho
     have w2 : IntKind.i64.wrap (((q + 1 : Nat) : Int) - 1) = (q : Int) := by rw [q2d (by omega)]; omega
     have n3 : ((q + 1 : Nat) : Int).toNat = q + 1 := Int.toNat_natCast _
     have n4 : (q : Int).toNat = q := Int.toNat_natCast _
     have n5 : (k : Int).toNat = k := Int.toNat_natCast _
     have c2 := q9f u v (hw u (List.mem_of_getElem? hu)) (hw v (List.mem_of_getElem? hv))
     have hst := qd8 (l := l) (n := j + 1 + (q + 1)) (by omega) hu (by rw [show j + 1 + (q + 1) - 1 = j + 1 + q by omega]; exact hv)
     (have hF := (aI (aI @e2 (aI @g3 @g4)) (aI (aI @w2 @n3) (aI @n4 @Nat.zero_add))); refine q01 (k:=?_); clear hF)
     refine q00 [q4w u, q4w v] (he := c2) (k:=?_)
     by_cases hz2 : q3x u v = 0
     ·rw [if_pos hz2, List.append_nil] at hst
      rw [decide_eq_true hz2]
      (have hF := @e2; refine q01 (k:=?_); clear hF)
      have hs2 : ((q + 1 : Nat) : Int) + 1 = ((q + 1 + 1 : Nat) : Int) := rfl
      (refine Fin.nextW ((q + 1, k, cur)) ?_ (have hW := (aI @q02 @hs2); q0g); (try dsimp only))
      exact ⟨⟨show q + 1 + 1 ≤ _ by omega, q2, q3, show k ≤ j + 1 + (q + 1) by omega, by rw [q5]; exact hst.symm, fun m hm => q6 m (by omega)⟩, show l.length - (q + 1) < l.length - q by omega⟩
     ·rw [if_neg hz2] at hst
      rw [decide_eq_false hz2]
      (have hF := (aI (aI @e2 (aI @g3 @g4)) (aI (aI @g5 @n3) (aI @n5 @Nat.zero_add))); refine q01 (k:=?_); clear hF)
      have hs2 : ((q + 1 : Nat) : Int) + 1 = ((q + 1 + 1 : Nat) : Int) := rfl
      have hs3 : (k : Int) + 1 = ((k + 1 : Nat) : Int) := rfl
      (refine Fin.nextW ((q + 1, k + 1, cur.set k u)) ?_ (have hW := (aI (aI @q02 @hs2) (aI @hs3 @zre)); q0g); (try dsimp only))
      have hk : (cur.set k u).take (k + 1) = cur.take k ++ [u] := by
       rw [List.take_add_one, List.take_set_of_le (Nat.le_refl k)]
       simp [show k < cur.length by omega]
      exact ⟨⟨show q + 1 + 1 ≤ _ by omega, by simpa using q2, show 1 ≤ k + 1 by omega, show k + 1 ≤ j + 1 + (q + 1) by omega, by rw [hk, q5]; exact hst.symm, fun m hm => by
       rw [List.getElem?_set_ne (show k ≠ m by omega)]; exact q6 m (by omega)⟩, show l.length - (q + 1) < l.length - q by omega⟩
    ·have hql : j + 1 + (q + 1) = l.length := by omega
     rw [hql] at q5
     have n5 : (k : Int).toNat = k := Int.toNat_natCast _
     (have hF := (aI @e2 (aI @n5 @Nat.zero_add)); refine q01 (k:=?_); clear hF)
     refine zs5 rfl rfl (el := 91) (by with_unfolding_all rfl) (by with_unfolding_all rfl) (by with_unfolding_all rfl) (by with_unfolding_all rfl) (by rw [e2]; omega) (by omega) ?_
     (have hF := (aI @e2 (aI @n5 @Nat.zero_add)); refine q01 (k:=?_); clear hF)
     refine Fin.done ⟨_, Wk.unview 4 0 0 3 k rfl rfl (by simp only [List.length_append, List.length_take, List.length_replicate, List.length_drop, e2]; omega), _, rfl, ?_, q02 _⟩
     rw [← q5]
     have e3 : ((q08 cur).take k).length = k := by rw [List.length_take, e2]; omega
     rw [List.append_assoc, List.take_append_of_le_length (show k ≤ ((q08 cur).take k).length by omega), List.take_of_length_le (show ((q08 cur).take k).length ≤ k by omega)]
     simp only [q08, List.map_take]
     rfl
   ·rw [decide_eq_false hz]
    (have hF := @e1; refine q01 (k:=?_); clear hF)
    have hs2 : ((j + 1 : Nat) : Int) + 1 = ((j + 1 + 1 : Nat) : Int) := rfl
    (refine Fin.nextW (j + 1) ?_ (have hW := (aI @q02 @hs2); q0g); (try dsimp only))
    exact ⟨⟨by omega, fun m a b hm hb ha => by
     by_cases e : m = j
     ·subst e
      rw [hx] at ha; rw [hy] at hb; cases ha; cases hb
      exact hz
     ·exact hd m a b (by omega) hb ha⟩, by omega⟩
  ·rw [qd9 (Nat.le_refl _) (fun m x y hm => hd m x y (by omega)), List.take_length]
   (have hF := @e1; refine q01 (k:=?_); clear hF)
   exact Fin.done ⟨_, Wk.unview 4 0 0 3 l.length rfl rfl (by rw [e1]; omega), _, rfl, by rw [show (q08 l).take l.length = q08 l by rw [← e1, List.take_length]]; rfl, q02 _⟩
end
def q83 (r : Rec) : Bool := decide (r.sku.size = 0) || q88 r.sku
def srtE (l : List Rec) : List Rec := if l.all q83 = true then q84 (q5y l) else []
theorem zpt (l : List Rec) : ∀ y ∈ q5y l, q96 y := by
 intro y hy
 unfold q5y at hy
 obtain ⟨r, _, rfl⟩ := List.mem_map.1 hy
 exact qay r.past
theorem keptK_wt {l : List Rec} {W : Nat} (hw : ∀ r ∈ l, wt r.past ≤ W) : ∀ y ∈ q5y l, wt y.past ≤ W + 16 := by
 intro y hy
 unfold q5y at hy
 obtain ⟨r, hr, rfl⟩ := List.mem_map.1 hy
 have := hw r (List.mem_filter.1 hr).1
 have := q6g r.past
 simp only
 omega
theorem zs7 {l : List Rec} {i : Nat} {r : Rec} (h : l[i]? = some r) (h1 : (l.take i).all q83 = true) (h2 : q83 r = true) : (l.take (i + 1)).all q83 = true := by
 rw [List.take_add_one, h, List.all_append, h1]
 simp [h2]
theorem zcm {l : List Rec} (h : l.length ≤ 1) : q84 l = l := by
 match l, h with
 | [], _ => rfl
 | [x], _ => rfl
theorem ev_k113 (l : List Rec) (hl : l.length ≤ 1000000000) (hw : ∀ r ∈ l, wt r.past ≤ 40000000) : Ev (En Tryz.prog rfl).P 113 [.sl 3 (q08 l)] (.ret (.tup [.sl 3 (q08 (srtE l)), .int .i64 (if l.all q83 = true then 0 else 5)])) := by
 refine Ev.of_body it_k113 (by simp) (Run.start ?_)
 unfold t_k113
 have e1 := q0j l
 have hS := qrk
 (have hF := @e1; refine q01 (k:=?_); clear hF)
 refine Run.wk (Wk.own_nil 4 30 3 rfl rfl) ?_
 refine Run.while (σ := Nat) (fun i => ⟨tms [(4, .os 30 (q5y (l.take i)).length), (7, .sl 3 (q08 l)), (8, .int .i64 l.length), (9, .int .i64 (i : Int))], mms [(30, .arr (q5y (l.take i)).length 3 (q08 (q5y (l.take i))))]⟩)
  (fun i => i ≤ l.length ∧ (l.take i).all q83 = true) (fun i => l.length - i) 0 (have hW := @q02; q0g) ⟨Nat.zero_le _, rfl⟩ ?_
 rintro i ⟨hi, hall⟩
 unfold ql1
 by_cases hlt : i < l.length
 ·obtain ⟨r, hr⟩ : ∃ r, l[i]? = some r := ⟨l[i], by simp [hlt]⟩
  have g1 := q0t hr
  have hst := zd3 hr
  have hle := qq7 (l.take i)
  have hle2 : (l.take i).length ≤ l.length := by rw [List.length_take]; omega
  generalize q5y (l.take i) = out at hst hle ⊢
  have e2 := q0j out
  have hwr := hw r (List.mem_of_getElem? hr)
  have c1 := qso r.sku
  have c2 := qql r.past (by omega)
  have c3 := qss r (by omega)
  have es := q9j r.sku
  by_cases hz : r.sku.size = 0
  case' pos =>
   have hok : q83 r = true := by simp [q83, hz]
   rw [eq_true hz] at es
   (have hF := (aI (aI @e1 @e2) (aI @g1 @es)); refine q01 (k:=?_); clear hF)
  case' neg =>
   rw [eq_false hz] at es
   by_cases hg : q88 r.sku = true
   case' neg =>
    have hbad : l.all q83 = false := by
     rw [Bool.eq_false_iff]
     intro h
     have := List.all_eq_true.1 h r (List.mem_of_getElem? hr)
     simp [q83, hz, hg] at this
    have hg : q88 r.sku = false := by simpa using hg
    rw [hg] at c1
    unfold srtE
    rw [hbad]
    (have hF := (aI (aI @e1 @e2) (aI @g1 @es)); refine q01 (k:=?_); clear hF)
    refine q00 [.str r.sku] (he := c1) (k:=?_)
    (have hF := (aI (aI @e1 @e2) (aI @g1 @es)); refine q01 (k:=?_); clear hF)
    exact Fin.two rfl rfl rfl rfl (.inr ⟨rfl, 3, rfl⟩) (.inl rfl)
   case' pos =>
    have hok : q83 r = true := by simp [q83, hg]
    rw [hg] at c1
    (have hF := (aI (aI @e1 @e2) (aI @g1 @es)); refine q01 (k:=?_); clear hF)
    refine q00 [.str r.sku] (he := c1) (k:=?_)
    (have hF := (aI (aI @e1 @e2) (aI @g1 @es)); refine q01 (k:=?_); clear hF)
  all_goals
   have hall2 := zs7 hr hall hok
   refine q00 [q0h r.past] (he := c2) (k:=?_)
   by_cases hs : q2x r.past = 0
   ·rw [if_pos hs, List.append_nil] at hst
    rw [decide_eq_true hs]
    (have hF := (aI @e1 (aI @e2 @g1)); refine q01 (k:=?_); clear hF)
    (refine Fin.nextW (i + 1) ?_ (have hW := (aI @q02 @hst); q0g); (try dsimp only))
    exact ⟨⟨hlt, hall2⟩, by omega⟩
   ·rw [if_neg hs] at hst
    rw [decide_eq_false hs]
    (have hF := (aI @e1 (aI @e2 @g1)); refine q01 (k:=?_); clear hF)
    refine q00 [q4w r] (he := c3) (k:=?_)
    unfold q4w
    (have hF := (aI @e1 (aI @e2 @g1)); refine q01 (k:=?_); clear hF)
    (refine Fin.nextW (i + 1) ?_ (have hW := (aI @q02 (aI @hst @q2v)); q0g); (try dsimp only))
    exact ⟨⟨hlt, hall2⟩, by omega⟩
 ·rw [List.take_of_length_le (show l.length ≤ i by omega)] at hall ⊢
  unfold srtE
  rw [hall, if_pos rfl, if_pos rfl]
  have hk := q0j (q5y l)
  have hkl := qq7 l
  have hcan := zpt l
  have hkw := keptK_wt hw
  by_cases h1 : (q5y l).length ≤ 1
  ·rw [zcm h1]
   refine Run.wk (Wk.give ⟨q1m (q02 l), rfl, rfl, trivial⟩ trivial rfl (q02 _)) ?_
   have c1 := ev_sort1 (q08 (q5y l)) (by omega) 106 (q02 _)
   have c2 := qsu (q08 (q5y l)) (by omega) 144 (q02 _)
   generalize q5y l = out at *
   (have hF := (aI @e1 @hk); refine q01 (k:=?_); clear hF)
   refine q00 [.sl 3 (q08 out), .fn 106 []] (he := c1) (k:=?_)
   (have hF := (aI @e1 @hk); refine q01 (k:=?_); clear hF)
   refine q00 [.sl 3 (q08 out), .fn 144 []] (he := c2) (k:=?_)
   (have hF := (aI @e1 @hk); refine q01 (k:=?_); clear hF)
   exact Fin.two rfl (q02 _) rfl rfl (.inl rfl) (.inl rfl)
  ·obtain ⟨s, hp, hs, hsort⟩ := qsn (q5y l) (fun r hr => by have := hkw r hr; omega) (by omega) (by omega)
   have hsl := hp.length_eq
   have hord := cpt_ord hp hs hcan
   have hcomp := zdm s (fun r hr => by have := hkw r (hp.mem_iff.1 hr); omega) (by omega)
   rw [hord] at hcomp
   generalize q5y l = out at *
   (have hF := (aI @e1 @hk); refine q01 (k:=?_); clear hF)
   refine zbw (args' := [.undef, .fn 106 []]) 0 30 rfl rfl rfl rfl rfl (q02 _) (q02 s) rfl hsort ?_
   (have hF := @e1; refine q01 (k:=?_); clear hF)
   refine zby (args' := [.undef, .fn 144 []]) 0 30 rfl rfl rfl rfl rfl (q02 _) (q02 _) hcomp ?_
   (have hF := @e1; refine q01 (k:=?_); clear hF)
   exact Fin.two (x := .sl 3 (q08 (q84 out))) (by simp [fz, fzc, q55, upd, tms, mms]) (q02 _) rfl rfl (.inl rfl) (.inl rfl)

structure MrS where
 i : Nat
 j : Nat
 out : List Rec

def z37 : List SOp := [zO 4 (.assign (.const (.slice none 0 0)))]
instance : Live z37 := ⟨[0,1]⟩
def z36 : List SOp := [zM 5 1,zO 6 (.binOp .lss 3 (.tmp 5) (.const (.int .i64 0)) 3)]
instance : Live z36 := ⟨[0,1]⟩
def z35 : List SOp := [zO 7 (.makeInterface 9 (.const (.string ⟨#[99,97,110,110,111,116,32,98,101,32,110,101,103,97,116,105,118,101]⟩))),⟨none,.panic (.tmp 7),none⟩]
instance : Live z35 := ⟨[0,1]⟩
def z34 : List SOp := [zM 8 1,zM 9 0,zO 10 (.call ⟨.builtin .cap,#[.tmp 9],#[27]⟩),zM 11 0,zO 12 (.call ⟨.builtin .len,#[.tmp 11],#[27]⟩),zO 13 (.binOp .sub 3 (.tmp 10) (.tmp 12) 3),zO 14 (.binOp .sub 3 (.tmp 8) (.tmp 13) 3),zG 1 14]
instance : Live z34 := ⟨[0,1]⟩
def z33 : List SOp := [zM 15 1,zO 16 (.binOp .gtr 3 (.tmp 15) (.const (.int .i64 0)) 3)]
instance : Live z33 := ⟨[0,1]⟩
def z32 : List SOp := [zM 17 0,zM 18 0,zO 19 (.call ⟨.builtin .cap,#[.tmp 18],#[27]⟩),zO 20 (.slice 27 (.tmp 17) none (some (.tmp 19)) none),zM 21 1,zO 22 (.call ⟨.builtin .append,#[.tmp 20,.tmp 21],#[27,3]⟩),zM 23 0,zO 24 (.call ⟨.builtin .len,#[.tmp 23],#[27]⟩),zO 25 (.slice 27 (.tmp 22) none (some (.tmp 24)) none),zG 0 25]
instance : Live z32 := ⟨[0,1]⟩
def z31 : List SOp := [zM 26 0,zG 4 26]
instance : Live z31 := ⟨[0]⟩
def t_k145 : SC :=
 (.seq (.ops false z37) (.seq (.seq (.ops false z36) (.cond (.tmp 6) (.ops false z35) .skip)) (.seq (.seq (.ops false z34) (.seq (.ops false z33) (.cond (.tmp 16) (.ops false z32) .skip))) (.seq (.ops false z31) .ret))))
theorem it_k145 : FnIs Tryz.prog 145 27 [.tmp 4] t_k145 := ⟨Tryz.f145, _, Tryz.func145, rfl, rfl, rfl, rfl, by kernel_rfl⟩

def z7s : List SOp := [zO 2 (.assign (.const (.slice none 0 0)))]
instance : Live z7s := ⟨[0]⟩
def z7r : List SOp := [zO 3 (.assign (.const (.int .i64 0)))]
instance : Live z7r := ⟨[0]⟩
def z7q : List SOp := [zM 9 0,zO 10 (.call ⟨.builtin .len,#[.tmp 9],#[175]⟩),zO 11 (.move (.const (.int .i64 0)))]
instance : Live z7q := ⟨[0,3]⟩
def z7p : List SOp := [zO 12 (.binOp .lss 3 (.tmp 11) (.tmp 10) 3)]
instance : Live z7p := ⟨[0,3,9,10,11]⟩
def z7o : List SOp := [zI 13 175 9 11,zL 14 27 13,zG 5 14]
instance : Live z7o := ⟨[0,3,9,10,11]⟩
def z7n : List SOp := [zM 15 3,zM 16 5,zO 17 (.call ⟨.builtin .len,#[.tmp 16],#[27]⟩),zO 18 (.binOp .add 3 (.tmp 15) (.tmp 17) 3),zG 3 18]
instance : Live z7n := ⟨[0,3,5,9,10,11]⟩
def z7m : List SOp := [zM 19 3,zO 20 (.binOp .lss 3 (.tmp 19) (.const (.int .i64 0)) 3)]
instance : Live z7m := ⟨[0,3,9,10,11]⟩
def z7l : List SOp := [zO 21 (.makeInterface 9 (.const (.string ⟨#[108,101,110,32,111,117,116,32,111,102,32,114,97,110,103,101]⟩))),⟨none,.panic (.tmp 21),none⟩]
instance : Live z7l := ⟨[0,3,9,10,11]⟩
def z7k : List SOp := [zO 22 (.binOp .add 3 (.tmp 11) (.const (.int .i64 1)) 3),zM 11 22]
instance : Live z7k := ⟨[0,3,9,10,11]⟩
def qp7 : List SOp := [zM 23 3,zO 24 (.call ⟨.value (.func 145),#[.const (.slice none 0 0),.tmp 23],#[27,3]⟩),zG 6 24]
instance : Live qp7 := ⟨[0,3]⟩
def qp6 : List SOp := [zM 25 0,zO 26 (.call ⟨.builtin .len,#[.tmp 25],#[175]⟩),zO 27 (.move (.const (.int .i64 0)))]
instance : Live qp6 := ⟨[0,6]⟩
def qp5 : List SOp := [zO 28 (.binOp .lss 3 (.tmp 27) (.tmp 26) 3)]
instance : Live qp5 := ⟨[6,25,26,27]⟩
def qp4 : List SOp := [zI 29 175 25 27,zL 30 27 29,zG 8 30]
instance : Live qp4 := ⟨[6,25,26,27]⟩
def qp3 : List SOp := [zM 31 6,zM 32 8,zO 33 (.call ⟨.builtin .append,#[.tmp 31,.tmp 32],#[27,27]⟩),zG 6 33]
instance : Live qp3 := ⟨[6,8,25,26,27]⟩
def qp2 : List SOp := [zO 34 (.binOp .add 3 (.tmp 27) (.const (.int .i64 1)) 3),zM 27 34]
instance : Live qp2 := ⟨[6,25,26,27]⟩
def qp1 : List SOp := [zM 35 6,zG 2 35]
instance : Live qp1 := ⟨[6]⟩
def ql0 : SC :=
 (.seq (.ops false z7p) (.seq (.cond (.tmp 12) .skip (.exit 0)) (.seq (.block 1 (.seq (.ops false z7o) (.seq (.ops false z7n) (.seq (.ops false z7m) (.cond (.tmp 20) (.ops false z7l) .skip))))) (.ops false z7k))))
def qkz : SC :=
 (.seq (.ops false qp5) (.seq (.cond (.tmp 28) .skip (.exit 2)) (.seq (.block 3 (.seq (.ops false qp4) (.ops false qp3))) (.ops false qp2))))
def t_k114 : SC :=
 (.seq (.ops false z7s) (.seq (.ops false z7r) (.seq (.seq (.ops false z7q) (.block 0 (.loop ql0))) (.seq (.ops false qp7) (.seq (.seq (.ops false qp6) (.block 2 (.loop qkz))) (.seq (.ops false qp1) .ret))))))
theorem it_k114 : FnIs Tryz.prog 114 36 [.tmp 2] t_k114 := ⟨Tryz.f114, _, Tryz.func114, rfl, rfl, rfl, rfl, by kernel_rfl⟩

def zir : List SOp := [zO 4 (.assign (.const (.slice none 0 0))),zO 5 (.assign (.const (.int .i64 0)))]
instance : Live zir := ⟨[0,1]⟩
def ziq : List SOp := [zM 6 0,zO 7 (.call ⟨.value (.func 55),#[.tmp 6],#[27]⟩),zO 8 (.binOp .neq 32 (.tmp 7) (.const (.int .i64 0)) 32),zM 9 8,⟨some 10,.move (.tmp 1),some ((some 9),false)⟩,⟨some 11,.call ⟨.value (.func 55),#[.tmp 10],#[27]⟩,some ((some 9),false)⟩,⟨some 12,.binOp .neq 32 (.tmp 11) (.const (.int .i64 0)) 32,some ((some 9),false)⟩,zO 13 (.pick (.tmp 9) (.const (.bool true)) (.tmp 12))]
instance : Live ziq := ⟨[0,1]⟩
def zip : List SOp := [zO 4 (.assign (.const (.slice none 0 0))),zO 5 (.assign (.const (.int .i64 1)))]
instance : Live zip := ⟨[]⟩
def zio : List SOp := [zM 14 0,zM 15 1,zO 16 (.buildSlice 175 2 #[(0,.tmp 14),(1,.tmp 15)]),zO 17 (.call ⟨.value (.func 114),#[.tmp 16],#[175]⟩),zO 18 (.call ⟨.value (.func 113),#[.tmp 17],#[27]⟩),zX 19 18 0,zX 20 18 1,zG 4 19,zG 5 20]
instance : Live zio := ⟨[0,1]⟩
def t_k66 : SC :=
 (.seq (.ops false zir) (.seq (.seq (.ops false ziq) (.cond (.tmp 13) (.seq (.ops false zip) .ret) .skip)) (.seq (.ops false zio) .ret)))
theorem it_k66 : FnIs Tryz.prog 66 21 [.tmp 4, .tmp 5] t_k66 := ⟨Tryz.f66, _, Tryz.func66, rfl, rfl, rfl, rfl, by kernel_rfl⟩

theorem zdl (m : Nat) (hm : m ≤ 100000000) : EvFresh (En Tryz.prog rfl).P 145 [.nil, .int .i64 (m : Int)] 3 [] := by
 refine EvFresh.of_body it_k145 (by simp) (AW.wkEnd (Run.start ?_))
 unfold t_k145
 (have hF := True.intro; refine q01 (k:=?_); clear hF)
 refine q4q (qf4 (En Tryz.prog rfl).hT rfl (by with_unfolding_all rfl) (el := 91) (by with_unfolding_all rfl)) ?_
 rintro v M' ⟨rfl, rfl⟩
 dsimp only [AS.put]
 (focus (have hF := True.intro; (repeat' (first | refine go1 (k:=?_) | with_reducible refine Ny.of ?_ ?_ | (refine Hyp.of ?_; intro hc; (try simp only [hc]); (try simp only [Bh] at hc)))); all_goals clear hF))
 ·refine q4q (qf4 (En Tryz.prog rfl).hT rfl (by with_unfolding_all rfl) (el := 91) (by with_unfolding_all rfl)) ?_
  rintro v M' ⟨rfl, rfl⟩
  dsimp only [AS.put]
  (have hF := True.intro; refine q01 (k:=?_); clear hF)
  refine q4q (zd6 (En Tryz.prog rfl).hT (m := m) 22 rfl rfl (by omega) (by omega) (by with_unfolding_all rfl) (el := 91) (by with_unfolding_all rfl) (by with_unfolding_all rfl) (ik := .i64) (by with_unfolding_all rfl) (by with_unfolding_all rfl) (by with_unfolding_all rfl) (show m * 64 ≤ 281474976710656 by omega) rfl) ?_
  rintro v M' ⟨rfl, rfl⟩
  dsimp only [AS.put]
  refine dv (v := .nil) (ups := []) rfl (by with_unfolding_all rfl) (by with_unfolding_all rfl) rfl ?_
  refine dv (v := .int .i64 0) (ups := []) rfl (by with_unfolding_all rfl) (by with_unfolding_all rfl) rfl ?_
  dsimp only [AS.put, ap]
  refine q4q (zq4 (En Tryz.prog rfl).hT (m := 0) (k := 22) (e := 0) (sz := 3) rfl rfl rfl (Nat.zero_le _) (by with_unfolding_all rfl) (el := 91) (by with_unfolding_all rfl) (by with_unfolding_all rfl) rfl) ?_
  rintro v M' ⟨rfl, rfl⟩
  dsimp only [AS.put]
  (have hF := True.intro; refine q01 (k:=?_); clear hF)
  exact Fin.done ⟨_, Wk.refl _ _, 22, 1, rfl, rfl, rfl⟩
 ·exact Fin.done ⟨_, Wk.own_nil 4 22 3 rfl rfl, 22, 0, rfl, rfl, rfl⟩
theorem zrg (a b : List Rec) : q08 a ++ q08 b = q08 (a ++ b) := by simp [q08]
theorem qqm (a b : List Rec) (ha : a.length ≤ 10000000) (hb : b.length ≤ 10000000) : Ev (En Tryz.prog rfl).P 114 [.sl 1 [.sl 3 (q08 a), .sl 3 (q08 b)]] (.ret (.sl 3 (q08 (a ++ b)))) := by
 refine Ev.of_body it_k114 (by simp) (Run.start ?_)
 unfold t_k114
 obtain ⟨Ls, hLs⟩ : ∃ Ls, [AVal.sl 3 (q08 a), AVal.sl 3 (q08 b)] = Ls := ⟨_, rfl⟩
 rw [hLs]
 have hLl : Ls.length = 2 := by rw [← hLs]; rfl
 have hLst : q0k Ls = true := by rw [← hLs]; simp [q0k, AVal.stb, q02]
 have hL0 : Ls[0]? = some (.sl 3 (q08 a)) := by rw [← hLs]; rfl
 have hL1 : Ls[1]? = some (.sl 3 (q08 b)) := by rw [← hLs]; rfl
 clear hLs
 have e1 := q0j a
 have e2 := q0j b
 have hLg : ∀ i, i < 2 → ∃ l, Ls[i]? = some (.sl 3 (q08 l)) ∧ l.length ≤ 10000000 ∧ (if i = 0 then [] else a) ++ l = if i + 1 = 1 then a else a ++ b := by
  intro i hi
  match i, hi with
  | 0, _ => exact ⟨a, hL0, ha, by simp⟩
  | 1, _ => exact ⟨b, hL1, hb, by simp⟩
 have hA : ∃ A : Nat → List Rec, A 0 = [] ∧ A 2 = a ++ b ∧ ∀ i, i < 2 → ∃ l, Ls[i]? = some (.sl 3 (q08 l)) ∧ l.length ≤ 10000000 ∧ A i ++ l = A (i + 1) :=
  ⟨fun i => if i = 0 then [] else if i = 1 then a else a ++ b, rfl, rfl, fun i hi => by
   match i, hi with
   | 0, _ => exact ⟨a, hL0, ha, by simp⟩
   | 1, _ => exact ⟨b, hL1, hb, by simp⟩⟩
 obtain ⟨A, hA0, hA2, hA⟩ := hA
 have hAl : ∀ i, i ≤ 2 → (A i).length ≤ 10000000 * i := by
  intro i
  induction i with
  | zero => intro _; rw [hA0]; simp
  | succ i ih =>
   intro hi
   obtain ⟨l, _, h2, h3⟩ := hA i (by omega)
   have := ih (by omega)
   rw [← h3, List.length_append]
   omega
 clear hLg hL0 hL1
 have hA0l : (A 0).length = 0 := by rw [hA0]; rfl
 have hA2l : (A 2).length ≤ 20000000 := hAl 2 (by omega)
 (have hF := @hLl; refine q01 (k:=?_); clear hF)
 refine Run.while (σ := Nat) (fun i => ⟨tms [(0, .sl 1 Ls), (3, .int .i64 ((A i).length : Int)), (9, .sl 1 Ls), (10, .int .i64 2), (11, .int .i64 (i : Int))], mms []⟩)
  (fun i => i ≤ 2) (fun i => 2 - i) 0 (have hW := (aI @hLst @hA0l); q0g) (Nat.zero_le _) ?_
 intro i hi
 unfold ql0
 by_cases hlt : i < 2
 ·obtain ⟨l, gl, hll, hal⟩ := hA i hlt
  have hb1 := hAl i (by omega)
  have hs : ((A i).length : Int) + (l.length : Int) = ((A (i + 1)).length : Int) := by rw [← hal, List.length_append]; omega
  have el := q0j l
  have hn : ¬ ((A (i + 1)).length : Int) < 0 := by omega
  have hb2 := hAl (i + 1) (by omega)
  have hwr : IntKind.i64.wrap ((A (i + 1)).length : Int) = ((A (i + 1)).length : Int) := q2d (by omega)
  (have hF := (aI (aI @hLl (aI @gl @el)) (aI @hs (aI @hn @hwr))); refine q01 (k:=?_); clear hF)
  (refine Fin.nextW (i + 1) ?_ (have hW := @hLst; q0g); (try dsimp only))
  omega
 ·have hi2 : i = 2 := by omega
  subst hi2
  (have hF := @hLl; refine q01 (k:=?_); clear hF)
  refine q4q (zd7 (f := 145) (caps := []) 24 rfl rfl rfl (zdl (A 2).length (by omega)) rfl) ?_
  rintro v M' ⟨rfl, rfl⟩
  dsimp only [AS.put]
  (have hF := @hLl; refine q01 (k:=?_); clear hF)
  have hA0e : q08 (A 0) = [] := by rw [hA0]; rfl
  refine Run.while (σ := Nat) (fun i => ⟨tms [(6, .os 24 i), (25, .sl 1 Ls), (26, .int .i64 2), (27, .int .i64 (i : Int))], mms [(24, .arr i 3 (q08 (A i)))]⟩)
   (fun i => i ≤ 2) (fun i => 2 - i) 0 (have hW := (aI @hLst (aI @hA0e @q02)); q0g) (Nat.zero_le _) ?_
  intro i hi
  unfold qkz
  by_cases hlt : i < 2
  ·obtain ⟨l, gl, hll, hal⟩ := hA i hlt
   have hb1 := hAl i (by omega)
   have el := q0j l
   have e3 := q0j (A i)
   have hap : q08 (A i) ++ q08 l = q08 (A (i + 1)) := by rw [zrg, hal]
   (have hF := (aI (aI @hLl @gl) (aI @el @e3)); refine q01 (k:=?_); clear hF)
   (refine Fin.nextW (i + 1) ?_ (have hW := (aI @hLst (aI @q02 @hap)); q0g); (try dsimp only))
   omega
  ·have hi2 : i = 2 := by omega
   subst hi2
   rw [← hA2]
   (have hF := @hLl; refine q01 (k:=?_); clear hF)
   exact Fin.tmp' (by simp [fz, fzc, q55, upd, tms, mms]) (q02 _)
theorem skuOk_of {r : Rec} (h : q31 r = 0) : q83 r = true := by
 unfold q31 at h
 unfold q83
 split at h
 ·omega
 ·rename_i h1
  by_cases h2 : r.sku.size = 0
  ·simp [h2]
  ·by_cases h3 : q88 r.sku = true
   ·simp [h3]
   ·exact absurd ⟨h2, by simpa using h3⟩ h1
theorem zs0 {r : Rec} (h : q31 r = 0) : q96 r ∧ q2x r.past ≠ 0 := by
 unfold q31 at h
 split at h
 ·omega
 ·split at h
  ·omega
  ·rename_i h1
   simp only [not_or] at h1
   exact ⟨q36.1 (by simpa using h1.1), h1.2⟩
theorem q37 {l : List Rec} (h : q3s l) : ∀ r ∈ l, q96 r ∧ q2x r.past ≠ 0 ∧ q83 r = true := by
 intro r hr
 obtain ⟨i, hi⟩ := List.mem_iff_getElem?.1 hr
 have := h.1 i r hi
 exact ⟨(zs0 this).1, (zs0 this).2, skuOk_of this⟩
theorem zd4 {l : List Rec} (h : ∀ r ∈ l, q96 r ∧ q2x r.past ≠ 0) : q5y l = l := by
 unfold q5y
 rw [List.filter_eq_self.2 fun r hr => by simp [(h r hr).2]]
 have : l.map (fun r => (⟨r.sku, q1g r.past⟩ : Rec)) = l.map id := List.map_congr_left fun r hr => by
  have := (h r hr).1
  unfold q96 at this
  rw [this]
  rfl
 rw [this, List.map_id]
noncomputable def zej (a b : List Rec) : List Rec := if q34 a = true ∧ q34 b = true then q84 (a ++ b) else []
theorem zex {a b : List Rec} (ha : q3s a) (hb : q3s b) : (a ++ b).all q83 = true ∧ srtE (a ++ b) = q84 (a ++ b) := by
 have hab : ∀ r ∈ a ++ b, q96 r ∧ q2x r.past ≠ 0 ∧ q83 r = true := fun r hr => (List.mem_append.1 hr).elim (q37 ha r) (q37 hb r)
 have h1 : (a ++ b).all q83 = true := List.all_eq_true.2 fun r hr => (hab r hr).2.2
 refine ⟨h1, ?_⟩
 unfold srtE
 rw [if_pos h1, zd4 fun r hr => ⟨(hab r hr).1, (hab r hr).2.1⟩]
theorem ev_k66 (a b : List Rec) (ha : a.length ≤ 10000000) (hb : b.length ≤ 10000000) (hwa : ∀ r ∈ a, wt r.past ≤ 40000000) (hwb : ∀ r ∈ b, wt r.past ≤ 40000000) :
 Ev (En Tryz.prog rfl).P 66 [.sl 3 (q08 a), .sl 3 (q08 b)] (.ret (.tup [.sl 3 (q08 (zej a b)), .int .i64 (if q34 a = true ∧ q34 b = true then 0 else 1)])) := by
 refine Ev.of_body it_k66 (by simp) (Run.start ?_)
 unfold t_k66 zej
 have hS := qrk
 have c1 := q2k a (by omega) hwa
 have c2 := q2k b (by omega) hwb
 by_cases hfa : q34 a = true
 case' neg =>
  rw [if_neg hfa] at c1
  rw [if_neg (fun h => hfa h.1), if_neg (fun h => hfa h.1)]
  (have hF := True.intro; refine q01 (k:=?_); clear hF)
  refine q00 [.sl 3 (q08 a)] (he := c1) (k:=?_)
  (have hF := True.intro; refine q01 (k:=?_); clear hF)
  exact Fin.two rfl rfl rfl rfl (.inr ⟨rfl, 3, rfl⟩) (.inl rfl)
 case' pos =>
  rw [if_pos hfa] at c1
  by_cases hfb : q34 b = true
  case' neg =>
   rw [if_neg hfb] at c2
   rw [if_neg (fun h => hfb h.2), if_neg (fun h => hfb h.2)]
   (have hF := True.intro; refine q01 (k:=?_); clear hF)
   refine q00 [.sl 3 (q08 a)] (he := c1) (k:=?_)
   (have hF := True.intro; refine q01 (k:=?_); clear hF)
   refine q00 [.sl 3 (q08 b)] (he := c2) (k:=?_)
   (have hF := True.intro; refine q01 (k:=?_); clear hF)
   exact Fin.two rfl rfl rfl rfl (.inr ⟨rfl, 3, rfl⟩) (.inl rfl)
  case' pos =>
   rw [if_pos hfb] at c2
   rw [if_pos ⟨hfa, hfb⟩, if_pos ⟨hfa, hfb⟩]
   obtain ⟨s1, s2⟩ := zex (q74.1 hfa) (q74.1 hfb)
   have c3 := qqm a b ha hb
   have c4 := ev_k113 (a ++ b) (by simp; omega) (fun r hr => (List.mem_append.1 hr).elim (hwa r) (hwb r))
   rw [s2, s1, if_pos rfl] at c4
   generalize a ++ b = l at *
   generalize q84 l = o at *
   (have hF := True.intro; refine q01 (k:=?_); clear hF)
   refine q00 [.sl 3 (q08 a)] (he := c1) (k:=?_)
   (have hF := True.intro; refine q01 (k:=?_); clear hF)
   refine q00 [.sl 3 (q08 b)] (he := c2) (k:=?_)
   (have hF := True.intro; refine q01 (k:=?_); clear hF)
   refine q00 [.sl 1 [.sl 3 (q08 a), .sl 3 (q08 b)]] (he := c3) (k:=?_)
   (have hF := True.intro; refine q01 (k:=?_); clear hF)
   refine q00 [.sl 3 (q08 l)] (he := c4) (k:=?_)
   (have hF := True.intro; refine q01 (k:=?_); clear hF)
   exact Fin.two rfl (q02 _) rfl rfl (.inl rfl) (.inl rfl)

def zjx : List SOp := [zO 3 (.box 26 (.tmp 1)),zO 4 (.assign (.const (.slice none 0 0))),zO 5 (.assign (.const (.int .i64 0)))]
instance : Live zjx := ⟨[0,1]⟩
def zjw : List SOp := [zM 9 0,zO 10 (.call ⟨.value (.func 55),#[.tmp 9],#[27]⟩),zO 11 (.binOp .neq 32 (.tmp 10) (.const (.int .i64 0)) 32),zM 12 11,⟨some 13,.load 26 (.tmp 3),some ((some 12),false)⟩,⟨some 14,.call ⟨.value (.func 54),#[.tmp 13],#[26]⟩,some ((some 12),false)⟩,⟨some 15,.unOp .not 4 (.tmp 14),some ((some 12),false)⟩,zO 16 (.pick (.tmp 12) (.const (.bool true)) (.tmp 15))]
instance : Live zjw := ⟨[0,3]⟩
def zjv : List SOp := [zO 4 (.assign (.const (.slice none 0 0))),zO 5 (.assign (.const (.int .i64 1)))]
instance : Live zjv := ⟨[]⟩
def zju : List SOp := [zO 6 (.assign (.const (.slice none 0 0)))]
instance : Live zju := ⟨[0,3]⟩
def zjt : List SOp := [zM 17 0,zO 18 (.call ⟨.builtin .len,#[.tmp 17],#[27]⟩),zO 19 (.move (.const (.int .i64 0)))]
instance : Live zjt := ⟨[0,3,6]⟩
def zjs : List SOp := [zO 20 (.binOp .lss 3 (.tmp 19) (.tmp 18) 3)]
instance : Live zjs := ⟨[3,6,17,18,19]⟩
def zjr : List SOp := [zI 21 27 17 19,zL 22 91 21,zO 8 (.alloc 91),⟨none,.store 91 (.tmp 8) (.tmp 22),none⟩]
instance : Live zjr := ⟨[3,6,17,18,19]⟩
def zjq : List SOp := [zF 23 91 8 1,zL 24 26 23,zL 25 26 3,zO 26 (.call ⟨.value (.func 56),#[.tmp 24,.tmp 25],#[26,26]⟩),zO 27 (.unOp .not 4 (.tmp 26))]
instance : Live zjq := ⟨[3,6,8,17,18,19]⟩
def zjp : List SOp := [zM 28 6,zL 29 91 8,zO 30 (.call ⟨.value (.func 108),#[.tmp 29],#[91]⟩),zO 31 (.buildSlice 27 1 #[(0,.tmp 30)]),zO 32 (.call ⟨.builtin .append,#[.tmp 28,.tmp 31],#[27,27]⟩),zG 6 32]
instance : Live zjp := ⟨[3,6,8,17,18,19]⟩
def qwd : List SOp := [zO 33 (.binOp .add 3 (.tmp 19) (.const (.int .i64 1)) 3),zM 19 33]
instance : Live qwd := ⟨[3,6,17,18,19]⟩
def qwc : List SOp := [zM 34 6,zG 4 34,zO 5 (.assign (.const (.int .i64 0)))]
instance : Live qwc := ⟨[6]⟩
def qu2 : SC :=
 (.seq (.ops false zjs) (.seq (.cond (.tmp 20) .skip (.exit 0)) (.seq (.block 1 (.seq (.ops false zjr) (.seq (.ops false zjq) (.cond (.tmp 27) (.ops false zjp) .skip)))) (.ops false qwd))))
def t_k57 : SC :=
 (.seq (.ops false zjx) (.seq (.seq (.ops false zjw) (.cond (.tmp 16) (.seq (.ops false zjv) .ret) .skip)) (.seq (.ops false zju) (.seq (.seq (.ops false zjt) (.block 0 (.loop qu2))) (.seq (.ops false qwc) .ret)))))
theorem it_k57 : FnIs Tryz.prog 57 35 [.tmp 4, .tmp 5] t_k57 := ⟨Tryz.f57, _, Tryz.func57, rfl, rfl, rfl, rfl, by kernel_rfl⟩

noncomputable def q0x (l : List Rec) (p : Pst) : List Rec := l.filter fun r => !q0n r.past p
theorem qdk {l : List Rec} {p : Pst} {i : Nat} {r : Rec} (h : l[i]? = some r) : q0x (l.take (i + 1)) p = q0x (l.take i) p ++ if q0n r.past p = true then [] else [r] := by
 unfold q0x
 rw [List.take_add_one, h, List.filter_append]
 by_cases hw : q0n r.past p = true
 ·simp [hw]
 ·simp [hw]
theorem qg7 (l : List Rec) (p : Pst) : (q0x l p).length ≤ l.length := List.length_filter_le _ _
noncomputable def qtg (l : List Rec) (p : Pst) : List Rec := if q34 l = true ∧ q18 p = true then q0x l p else []
theorem ev_k57 (l : List Rec) (p : Pst) (hl : l.length ≤ 1000000000) (hw : ∀ r ∈ l, wt r.past ≤ 40000000) (hp : wt p ≤ 40000000) :
 Ev (En Tryz.prog rfl).P 57 [.sl 3 (q08 l), q0h p] (.ret (.tup [.sl 3 (q08 (qtg l p)), .int .i64 (if q34 l = true ∧ q18 p = true then 0 else 1)])) := by
 refine Ev.of_body it_k57 (by simp) (Run.start ?_)
 unfold t_k57 q0h qtg
 have hS := qrk
 have e1 := q0j l
 have c1 := q2k l (by omega) hw
 have c2 := qgx p (by omega)
 by_cases hf : q34 l = true
 case' neg =>
  rw [if_neg hf] at c1
  rw [if_neg (fun h => hf h.1), if_neg (fun h => hf h.1)]
  (have hF := @e1; refine q01 (k:=?_); clear hF)
  refine q00 [.sl 3 (q08 l)] (he := c1) (k:=?_)
  (have hF := @e1; refine q01 (k:=?_); clear hF)
  exact Fin.two rfl rfl rfl rfl (.inr ⟨rfl, 3, rfl⟩) (.inl rfl)
 case' pos =>
  rw [if_pos hf] at c1
  by_cases hn : q18 p = true
  case' neg =>
   rw [if_neg (fun h => hn h.2), if_neg (fun h => hn h.2)]
   rw [show q18 p = false by simpa using hn] at c2
   (have hF := @e1; refine q01 (k:=?_); clear hF)
   refine q00 [.sl 3 (q08 l)] (he := c1) (k:=?_)
   (have hF := @e1; refine q01 (k:=?_); clear hF)
   refine q00 [q0h p] (he := c2) (k:=?_)
   (have hF := @e1; refine q01 (k:=?_); clear hF)
   exact Fin.two rfl rfl rfl rfl (.inr ⟨rfl, 3, rfl⟩) (.inl rfl)
  case' pos =>
   rw [if_pos ⟨hf, hn⟩, if_pos ⟨hf, hn⟩]
   rw [hn] at c2
   have hfm := q37 (q74.1 hf)
   (have hF := @e1; refine q01 (k:=?_); clear hF)
   refine q00 [.sl 3 (q08 l)] (he := c1) (k:=?_)
   (have hF := @e1; refine q01 (k:=?_); clear hF)
   refine q00 [q0h p] (he := c2) (k:=?_)
   (have hF := @e1; refine q01 (k:=?_); clear hF)
   refine Run.wk (Wk.own_nil 6 32 3 rfl rfl) ?_
   refine Run.while (σ := Nat) (fun i => ⟨tms [(3, .ptr 3 0), (6, .os 32 (q0x (l.take i) p).length), (17, .sl 3 (q08 l)), (18, .int .i64 l.length), (19, .int .i64 (i : Int))], mms [(3, .cells [.sl 1 (q04 p.vec), .sl 3 (q0c p.cloud)]), (32, .arr (q0x (l.take i) p).length 3 (q08 (q0x (l.take i) p)))]⟩)
    (fun i => i ≤ l.length) (fun i => l.length - i) 0 (have hW := @q02; q0g) (Nat.zero_le _) ?_
   intro i hi
   unfold qu2
   by_cases hlt : i < l.length
   ·obtain ⟨r, hr⟩ : ∃ r, l[i]? = some r := ⟨l[i], by simp [hlt]⟩
    have g1 := q0t hr
    have hst := qdk (p := p) hr
    have hle := qg7 (l.take i) p
    have hle2 : (l.take i).length ≤ l.length := by rw [List.length_take]; omega
    generalize q0x (l.take i) p = out at hst hle ⊢
    have e2 := q0j out
    have hrl := List.mem_of_getElem? hr
    have hwr := hw r hrl
    have c3 := ev_k56 r.past p (by omega) (by omega)
    have c4 := qss r (by omega)
    have hcan : q1g r.past = r.past := (hfm r hrl).1
    rw [hcan] at c4
    (have hF := (aI @e1 (aI @e2 @g1)); refine q01 (k:=?_); clear hF)
    refine q00 [q0h r.past, q0h p] (he := c3) (k:=?_)
    by_cases hwi : q0n r.past p = true
    ·rw [if_pos hwi, List.append_nil] at hst
     rw [hwi]
     (have hF := (aI @e1 (aI @e2 @g1)); refine q01 (k:=?_); clear hF)
     (refine Fin.nextW (i + 1) ?_ (have hW := (aI @q02 @hst); q0g); (try dsimp only))
     omega
    ·rw [if_neg hwi] at hst
     rw [show q0n r.past p = false by simpa using hwi]
     (have hF := (aI @e1 (aI @e2 @g1)); refine q01 (k:=?_); clear hF)
     refine q00 [q4w r] (he := c4) (k:=?_)
     unfold q4w
     (have hF := (aI @e1 (aI @e2 @g1)); refine q01 (k:=?_); clear hF)
     (refine Fin.nextW (i + 1) ?_ (have hW := (aI @q02 (aI @hst @q2v)); q0g); (try dsimp only))
     omega
   ·rw [List.take_of_length_le (show l.length ≤ i by omega)]
    (have hF := @e1; refine q01 (k:=?_); clear hF)
    exact Fin.two (x := .sl 3 (q08 (q0x l p))) (by simp [fz, fzc, q55, upd, tms, mms]) (q02 _) rfl rfl (.inl rfl) (.inl rfl)

def ltS (a b : Rec) : Prop := q8p a.sku b.sku < 0
theorem zq7 {m : List Rec} (h : ∀ r ∈ m, CanP r.past) : qiq m = m := by
 cases m with
 | nil => rfl
 | cons r m =>
  show (if r.sku.size = 0 then (⟨r.sku, q1g r.past⟩ : Rec) :: m else r :: m) = r :: m
  split
  ·have : q1g r.past = r.past := h r (by simp)
   rw [this]
  ·rfl
structure Folded (L K : List Rec) : Prop where
 from_ : ∀ r ∈ K, ∃ q ∈ L, q.sku = r.sku
 can : ∀ r ∈ K, CanP r.past
 size : ∀ r ∈ K, q2x r.past ≠ 0
 lt : K.Pairwise ltS
 apart : ∀ a ∈ K, ∀ b ∈ K, a.sku.size = 0 → b.sku.size ≠ 0 → ∀ d, q1l b.past d = true → q1l a.past d = false
theorem Folded.form {L K : List Rec} (h : Folded L K) (hL : ∀ q ∈ L, q31 q = 0) : q3s K := by
 refine ⟨fun i r hr => ?_, fun i a b ha hb => ?_⟩
 ·have hm := List.mem_of_getElem? hr
  obtain ⟨q, hq, hqs⟩ := h.from_ r hm
  have h1 := hL q hq
  have h2 : q18 r.past = true := q36.2 (h.can r hm)
  have h3 := h.size r hm
  unfold q31 at h1 ⊢
  rw [← hqs]
  split at h1
  ·cases h1
  ·rename_i h4
   rw [if_neg h4, if_neg]
   rintro (h5 | h5)
   ·rw [h2] at h5; cases h5
   ·exact h3 h5
 ·have hab : ltS a b := by
   have h1 : i < K.length := by
    rcases Nat.lt_or_ge i K.length with h' | h'
    ·exact h'
    ·rw [List.getElem?_eq_none h'] at ha; cases ha
   have h2 : i + 1 < K.length := by
    rcases Nat.lt_or_ge (i + 1) K.length with h' | h'
    ·exact h'
    ·rw [List.getElem?_eq_none h'] at hb; cases hb
   have := List.pairwise_iff_getElem.1 h.lt i (i + 1) h1 h2 (by omega)
   rw [List.getElem?_eq_getElem h1, Option.some.injEq] at ha
   rw [List.getElem?_eq_getElem h2, Option.some.injEq] at hb
   rw [ha, hb] at this
   exact this
  unfold ltS at hab
  unfold q3x
  rw [if_neg (by omega)]
  exact hab
theorem Folded.one {L K : List Rec} (h : Folded L K) (e : Ent) : q6a K e ≤ 1 := by
 unfold q6a
 have hp : (K.filter fun r => qco r e).Pairwise ltS := h.lt.filter _
 have hm : ∀ r ∈ K.filter (fun r => qco r e), r ∈ K ∧ qco r e = true := fun r hr => List.mem_filter.1 hr
 generalize K.filter (fun r => qco r e) = F at hp hm
 match F, hp, hm with
 | [], _, _ => exact Nat.zero_le _
 | [a], _, _ => exact Nat.le_refl _
 | a :: b :: F, hp, hm =>
  exfalso
  obtain ⟨ha, hac⟩ := hm a (by simp)
  obtain ⟨hb, hbc⟩ := hm b (by simp)
  have hab : ltS a b := (List.pairwise_cons.1 hp).1 b (by simp)
  have hne : a.sku ≠ b.sku := fun he => by
   unfold ltS at hab
   rw [he, q4x.2 rfl] at hab
   omega
  obtain ⟨h1, h2⟩ := (q7x a e).1 hac
  obtain ⟨h3, h4⟩ := (q7x b e).1 hbc
  by_cases ha0 : a.sku.size = 0
  ·by_cases hb0 : b.sku.size = 0
   ·exact hne (by rw [q5n.2 ha0, q5n.2 hb0])
   ·have := h.apart a ha b hb ha0 hb0 e.dot h4
    rw [h2] at this; cases this
  ·by_cases hb0 : b.sku.size = 0
   ·have := h.apart b hb a ha hb0 ha0 e.dot h2
    rw [h4] at this; cases this
   ·exact hne ((h1.resolve_left ha0).trans (h3.resolve_left hb0).symm)

theorem lt_ne {a b : ByteArray} (h : q8p a b < 0) : b.size ≠ 0 := by
 intro hb
 have h1 : bs b = [] := by
  have := zs2 b
  rw [hb] at this
  exact List.length_eq_zero_iff.1 this
 unfold q8p at h
 rw [h1] at h
 cases h3 : bs a with
 | nil => rw [h3] at h; simp [q67] at h
 | cons x l => rw [h3] at h; simp [q67] at h
theorem qqb {r : Rec} {K : List Rec} (hp : (r :: K).Pairwise ltS) (hc : CanP r.past) : q2y (r :: K) = r.past ∧ (r :: K).dropWhile (q12 r.sku) = K := by
 have h := q6p (p := q12 r.sku) (l := r :: K) (m := 1) (fun x hx => by simp at hx; subst hx; simp [q12]) (fun x hx => by
  have hm : x ∈ K := List.mem_of_getElem? (by simpa using hx)
  have := (List.pairwise_cons.1 hp).1 x hm
  refine decide_eq_false fun he => ?_
  unfold ltS at this
  rw [he, q4x.2 rfl] at this
  omega)
 refine ⟨?_, by rw [h.2]; rfl⟩
 unfold q2y zd8
 simp only
 rw [h.1]
 exact hc
theorem qs7 {p all : Pst} (hc : CanP p) (h : ∀ d, q1l p d = true → q1l all d = false) : q3o p all = p := by
 refine (zdw _ _).ext hc fun r hr n => ?_
 rw [q8e _ _ hr]
 constructor
 ·exact fun h => h.1
 ·intro hi
  refine ⟨hi, fun ha => ?_⟩
  have h1 : q1l p ((r : Int), n) = true := (q1w p _).2 ⟨by show (0 : Int) ≤ (r : Int); omega, by simpa using hi⟩
  have h2 : q1l all ((r : Int), n) = true := (q1w all _).2 ⟨by show (0 : Int) ≤ (r : Int); omega, by simpa using ha⟩
  rw [h _ h1] at h2
  cases h2
theorem qbn : ∀ (n : Nat) (K : List Rec) (all : Pst), K.length ≤ n → K.Pairwise ltS → (∀ r ∈ K, r.sku.size ≠ 0 ∧ CanP r.past ∧ q2x r.past ≠ 0 ∧ ∀ d, q1l r.past d = true → q1l all d = false) → q60 n K all = K
 | 0, K, all, h, _, _ => by
  have : K = [] := List.length_eq_zero_iff.1 (by omega)
  subst this
  rfl
 | n + 1, [], all, _, _, _ => rfl
 | n + 1, r :: K, all, h, hp, hk => by
  obtain ⟨h1, h2, h3, h4⟩ := hk r (by simp)
  obtain ⟨g1, g2⟩ := qqb hp h2
  have ih := qbn n K all (by simp at h; omega) (List.pairwise_cons.1 hp).2 (fun x hx => hk x (by simp [hx]))
  show qjn r.sku (zax all r.sku (q2y (r :: K))) ++ q60 n ((r :: K).dropWhile (q12 r.sku)) (ze3 all r.sku (q2y (r :: K))) = _
  rw [show zax all r.sku (q2y (r :: K)) = q3o (q2y (r :: K)) all from if_neg h1, show ze3 all r.sku (q2y (r :: K)) = all from if_neg h1, g1, g2, ih, qs7 h2 h4]
  rw [show qjn r.sku r.past = [⟨r.sku, r.past⟩] from if_neg h3]
  rfl
theorem Folded.rest {L K : List Rec} (h : Folded L K) : q9t K = K := by
 have hhd : q60 K.length K ⟨[], []⟩ = K := by
  cases K with
  | nil => rfl
  | cons r K =>
   have hlt := (List.pairwise_cons.1 h.lt).1
   have hne : ∀ x ∈ K, x.sku.size ≠ 0 := fun x hx => lt_ne (hlt x hx)
   by_cases hz : r.sku.size = 0
   ·obtain ⟨g1, g2⟩ := qqb h.lt (h.can r (by simp))
    show qjn r.sku (zax ⟨[], []⟩ r.sku (q2y (r :: K))) ++ q60 K.length ((r :: K).dropWhile (q12 r.sku)) (ze3 ⟨[], []⟩ r.sku (q2y (r :: K))) = _
    rw [show zax ⟨[], []⟩ r.sku (q2y (r :: K)) = q2y (r :: K) from if_pos hz, show ze3 ⟨[], []⟩ r.sku (q2y (r :: K)) = q2y (r :: K) from if_pos hz, g1, g2]
    rw [qbn K.length K r.past (Nat.le_refl _) (List.pairwise_cons.1 h.lt).2 (fun x hx => ⟨hne x hx, h.can x (by simp [hx]), h.size x (by simp [hx]), fun d hd => h.apart r (by simp) x (by simp [hx]) hz (hne x hx) d hd⟩)]
    rw [show qjn r.sku r.past = [⟨r.sku, r.past⟩] from if_neg (h.size r (by simp))]
    rfl
   ·refine qbn (r :: K).length (r :: K) ⟨[], []⟩ (Nat.le_refl _) h.lt fun x hx => ⟨?_, h.can x hx, h.size x hx, fun d _ => zq8 d⟩
    rcases List.mem_cons.1 hx with rfl | hx
    ·exact hz
    ·exact hne x hx
 unfold q9t
 rw [hhd]
 exact zq7 h.can


theorem q8h {l : List Rec} (h : q3s l) : SrtR l := by
 have adj := h.2
 clear h
 unfold SrtR
 induction l with
 | nil => exact List.Pairwise.nil
 | cons a l ih =>
  have ih' := ih fun i x y hx hy => adj (i + 1) x y (by simpa using hx) (by simpa using hy)
  rw [List.pairwise_cons]
  refine ⟨fun z hz => ?_, ih'⟩
  cases l with
  | nil => cases hz
  | cons b l =>
   have h0 := adj 0 a b rfl rfl
   rcases List.mem_cons.1 hz with e | e
   ·rw [e]; exact h0
   ·exact q9u h0 ((List.pairwise_cons.1 ih').1 z e)
theorem zbg {l : List Rec} (hs : SrtR l) (h : ∀ r ∈ l, q31 r = 0) : q3s l := by
 refine ⟨fun i r hr => h r (List.mem_of_getElem? hr), fun i a b ha hb => ?_⟩
 unfold SrtR at hs
 rw [List.getElem?_eq_some_iff] at ha hb
 obtain ⟨h1, rfl⟩ := ha
 obtain ⟨h2, rfl⟩ := hb
 exact List.pairwise_iff_getElem.1 hs i (i + 1) h1 h2 (by omega)
theorem qf6 {l : List Rec} (h : q3s l) : ∀ r ∈ l, q31 r = 0 := fun r hr => by
 obtain ⟨i, hi⟩ := List.mem_iff_getElem?.1 hr
 exact h.1 i r hi
theorem qce {l : List Rec} (p : Rec → Bool) (h : q3s l) : q3s (l.filter p) :=
 zbg ((q8h h).filter _) fun r hr => qf6 h r (List.mem_filter.1 hr).1
theorem qf5 {a b : List Rec} (ha : q3s a) (hb : q3s b) : q3s (q84 (a ++ b)) :=
 zbg (q8u _) fun r hr => (List.mem_append.1 (q8t hr)).elim (qf6 ha r) (qf6 hb r)
theorem qbz {a b : List Rec} (ha : q3s a) (hb : q3s b) : ∀ y ∈ a ++ b, q96 y := fun r hr => (List.mem_append.1 hr).elim (fun h => (q37 ha r h).1) (fun h => (q37 hb r h).1)
theorem qc3 {p q s : Pst} (h1 : q0n p q = true) (h2 : q0n q s = true) : q0n p s = true :=
 q2h.2 fun r hr n h => q2h.1 h2 r hr n (q2h.1 h1 r hr n h)
theorem qdg (p : Pst) : q0n p p = true := q2h.2 fun r hr n h => h
theorem qtf (x : Rec) : ∀ l : List Rec, q4y (zbb x l) ≤ wtK x + q4y l
 | [] => by simp [zbb, q4y]
 | y :: l => by
  have ih := qtf x l
  unfold zbb
  split
  ·simp [q4y]
  ·split
   ·simp [q4y]
   ·unfold q4y at *
    simp only [List.map_cons, List.sum_cons] at *
    omega
theorem qct : ∀ l : List Rec, q4y (q84 l) ≤ q4y l
 | [] => Nat.le_refl _
 | x :: l => by
  have ih := qct l
  have := qtf x (q84 l)
  unfold q84
  unfold q4y at *
  simp only [List.map_cons, List.sum_cons] at *
  omega
theorem qhk (a b : List Rec) : q4y (a ++ b) = q4y a + q4y b := by simp [q4y]

def lt2 (a b : Ent) : Prop := q3h a.dot b.dot = true
theorem q4d (x y : Rn) : q3h x y = true ↔ x.1 < y.1 ∨ (x.1 = y.1 ∧ x.2 < y.2) := by
 unfold q3h
 simp [Bool.or_eq_true, Bool.and_eq_true]
theorem qah {a b c : Ent} (h : lt2 a b) (h' : lt2 b c) : lt2 a c := by
 unfold lt2 at *
 rw [q4d] at *
 omega
theorem q5x {a b : Ent} (h : lt2 a b) : a.dot ≠ b.dot := by
 unfold lt2 at h
 rw [q4d] at h
 intro e
 rw [e] at h
 omega
theorem qt0 (x y : Rn) (h1 : q3h x y = false) (h2 : q3h y x = false) : x = y := by
 have a : ¬ q3h x y = true := by rw [h1]; decide
 have b : ¬ q3h y x = true := by rw [h2]; decide
 rw [q4d] at a b
 cases x; cases y
 simp at a b
 congr 1 <;> omega
abbrev ze6 (l : List Ent) : Prop := l.Pairwise lt2
theorem q5l : ∀ {l : List Ent}, (∀ (i : Nat) a b, l[i]? = some a → l[i + 1]? = some b → q3h a.dot b.dot = true) → ze6 l
 | [], _ => List.Pairwise.nil
 | [a], _ => by simp [ze6]
 | a :: b :: l, h => by
  have ih := q5l (l := b :: l) fun i x y hx hy => h (i + 1) x y hx hy
  refine List.Pairwise.cons (fun x hx => ?_) ih
  have hab : lt2 a b := h 0 a b rfl rfl
  rcases List.mem_cons.1 hx with rfl | hx
  ·exact hab
  ·exact qah hab ((List.pairwise_cons.1 ih).1 x hx)
theorem qhr : ∀ {l m : List Ent}, ze6 l → ze6 m → (∀ e, e ∈ l ↔ e ∈ m) → l = m
 | [], [], _, _, _ => rfl
 | [], b :: m, _, _, h => absurd ((h b).2 (by simp)) (by simp)
 | a :: l, [], _, _, h => absurd ((h a).1 (by simp)) (by simp)
 | a :: l, b :: m, h1, h2, h => by
  obtain ⟨ha, hl⟩ := List.pairwise_cons.1 h1
  obtain ⟨hb, hm⟩ := List.pairwise_cons.1 h2
  have hab : a = b := by
   rcases List.mem_cons.1 ((h a).1 (by simp)) with e | h3
   ·exact e
   ·rcases List.mem_cons.1 ((h b).2 (by simp)) with e | h4
    ·exact e.symm
    ·exact absurd rfl (q5x (qah (hb a h3) (ha b h4)))
  subst hab
  congr 1
  refine qhr hl hm fun e => ?_
  constructor
  ·intro he
   rcases List.mem_cons.1 ((h e).1 (by simp [he])) with rfl | h3
   ·exact absurd rfl (q5x (ha e he))
   ·exact h3
  ·intro he
   rcases List.mem_cons.1 ((h e).2 (by simp [he])) with rfl | h3
   ·exact absurd rfl (q5x (hb e he))
   ·exact h3
def eqE (a b : Ent) : Bool := (((decide (a.rep = b.rep) && decide (a.num = b.num)) && decide (a.sku = b.sku)) && decide (a.qty = b.qty))
theorem qbt (a b : Ent) : eqE a b = true ↔ a = b := by
 cases a; cases b
 simp [eqE, Bool.and_eq_true, and_assoc]
def qgk (k : Bool) (a : Ent) : List Ent := if k = true then [a] else []
theorem mem_opt1 {k : Bool} {a e : Ent} : e ∈ qgk k a ↔ k = true ∧ e = a := by
 unfold qgk
 split <;> simp_all
def q6z (ka kb : Ent → Bool) : Nat → List Ent → List Ent → Option (List Ent)
 | 0, _, _ => some []
 | n + 1, [], [] => some []
 | n + 1, a :: A, [] => (q6z ka kb n A []).map (qgk (ka a) a ++ ·)
 | n + 1, [], b :: B => (q6z ka kb n [] B).map (qgk (kb b) b ++ ·)
 | n + 1, a :: A, b :: B =>
  if q3h a.dot b.dot = true then (q6z ka kb n A (b :: B)).map (qgk (ka a) a ++ ·)
  else if q3h b.dot a.dot = true then (q6z ka kb n (a :: A) B).map (qgk (kb b) b ++ ·)
  else if eqE a b = true then (q6z ka kb n A B).map (a :: ·) else none
def q4n (l : List Ent) (d : Rn) : Prop := ∃ e ∈ l, e.dot = d
def Clash (A B : List Ent) : Prop := ∃ a ∈ A, ∃ b ∈ B, a.dot = b.dot ∧ a ≠ b
def InM (ka kb : Ent → Bool) (A B : List Ent) (e : Ent) : Prop := (e ∈ A ∧ (q4n B e.dot ∨ ka e = true)) ∨ (e ∈ B ∧ (q4n A e.dot ∨ kb e = true))
def MSpec (ka kb : Ent → Bool) (A B : List Ent) : Option (List Ent) → Prop
 | none => Clash A B
 | some L => ¬ Clash A B ∧ ze6 L ∧ ∀ e, e ∈ L ↔ InM ka kb A B e
theorem MSpec.stepA {ka kb : Ent → Bool} {a : Ent} {A B : List Ent} (hA : ∀ x ∈ A, lt2 a x) (hB : ∀ x ∈ B, lt2 a x) {r : Option (List Ent)} (h : MSpec ka kb A B r) : MSpec ka kb (a :: A) B (r.map (qgk (ka a) a ++ ·)) := by
 have hd : ¬ q4n B a.dot := fun ⟨x, hx, e⟩ => q5x (hB x hx) e.symm
 have hc : Clash (a :: A) B ↔ Clash A B := by
  constructor
  ·rintro ⟨x, hx, y, hy, e, hne⟩
   rcases List.mem_cons.1 hx with rfl | hx
   ·exact absurd ⟨y, hy, e.symm⟩ hd
   ·exact ⟨x, hx, y, hy, e, hne⟩
  ·rintro ⟨x, hx, y, hy, e, hne⟩
   exact ⟨x, by simp [hx], y, hy, e, hne⟩
 have hdc : ∀ y ∈ B, (q4n (a :: A) y.dot ↔ q4n A y.dot) := fun y hy => by
  constructor
  ·rintro ⟨x, hx, e⟩
   rcases List.mem_cons.1 hx with rfl | hx
   ·exact absurd e (q5x (hB y hy))
   ·exact ⟨x, hx, e⟩
  ·rintro ⟨x, hx, e⟩
   exact ⟨x, by simp [hx], e⟩
 cases r with
 | none => exact hc.2 h
 | some L =>
  obtain ⟨h1, h2, h3⟩ := h
  refine ⟨fun h => h1 (hc.1 h), ?_, fun e => ?_⟩
  ·show ze6 (qgk (ka a) a ++ L)
   unfold qgk
   split
   ·refine List.Pairwise.cons (fun x hx => ?_) h2
    rcases (h3 x).1 hx with h | h
    ·exact hA x h.1
    ·exact hB x h.1
   ·exact h2
  ·rw [List.mem_append, mem_opt1, h3]
   unfold InM
   constructor
   ·rintro (⟨hk, rfl⟩ | ⟨hx, hk⟩ | ⟨hx, hk⟩)
    ·exact .inl ⟨by simp, .inr hk⟩
    ·exact .inl ⟨by simp [hx], hk⟩
    ·exact .inr ⟨hx, by rw [hdc e hx]; exact hk⟩
   ·rintro (⟨hx, hk⟩ | ⟨hx, hk⟩)
    ·rcases List.mem_cons.1 hx with rfl | hx
     ·exact .inl ⟨hk.resolve_left hd, rfl⟩
     ·exact .inr (.inl ⟨hx, hk⟩)
    ·exact .inr (.inr ⟨hx, by rw [hdc e hx] at hk; exact hk⟩)
theorem Clash.symm {A B : List Ent} (h : Clash A B) : Clash B A := by
 obtain ⟨a, ha, b, hb, e, hne⟩ := h
 exact ⟨b, hb, a, ha, e.symm, fun h => hne h.symm⟩
theorem MSpec.symm {ka kb : Ent → Bool} {A B : List Ent} {r : Option (List Ent)} (h : MSpec ka kb A B r) : MSpec kb ka B A r := by
 cases r with
 | none => exact Clash.symm h
 | some L => exact ⟨fun hc => h.1 hc.symm, h.2.1, fun e => by rw [h.2.2 e]; unfold InM; exact or_comm⟩
theorem MSpec.stepBoth {ka kb : Ent → Bool} {a : Ent} {A B : List Ent} (hA : ∀ x ∈ A, lt2 a x) (hB : ∀ x ∈ B, lt2 a x) {r : Option (List Ent)} (h : MSpec ka kb A B r) : MSpec ka kb (a :: A) (a :: B) (r.map (a :: ·)) := by
 have hc : Clash (a :: A) (a :: B) ↔ Clash A B := by
  constructor
  ·rintro ⟨x, hx, y, hy, e, hne⟩
   rcases List.mem_cons.1 hx with rfl | hx
   ·rcases List.mem_cons.1 hy with rfl | hy
    ·exact absurd rfl hne
    ·exact absurd e (q5x (hB y hy))
   ·rcases List.mem_cons.1 hy with h0 | hy
    ·rw [h0] at e
     exact absurd e.symm (q5x (hA x hx))
    ·exact ⟨x, hx, y, hy, e, hne⟩
  ·rintro ⟨x, hx, y, hy, e, hne⟩
   exact ⟨x, by simp [hx], y, by simp [hy], e, hne⟩
 have hd : ∀ {C : List Ent} (y : Ent), lt2 a y → (q4n (a :: C) y.dot ↔ q4n C y.dot) := fun {C} y hy => by
  constructor
  ·rintro ⟨x, hx, e⟩
   rcases List.mem_cons.1 hx with rfl | hx
   ·exact absurd e (q5x hy)
   ·exact ⟨x, hx, e⟩
  ·rintro ⟨x, hx, e⟩
   exact ⟨x, by simp [hx], e⟩
 cases r with
 | none => exact hc.2 h
 | some L =>
  obtain ⟨h1, h2, h3⟩ := h
  refine ⟨fun h => h1 (hc.1 h), ?_, fun e => ?_⟩
  ·refine List.Pairwise.cons (fun x hx => ?_) h2
   rcases (h3 x).1 hx with h | h
   ·exact hA x h.1
   ·exact hB x h.1
  ·show e ∈ a :: L ↔ _
   rw [List.mem_cons, h3]
   unfold InM
   constructor
   ·rintro (rfl | ⟨hx, hk⟩ | ⟨hx, hk⟩)
    ·exact .inl ⟨by simp, .inl ⟨e, by simp, rfl⟩⟩
    ·exact .inl ⟨by simp [hx], by rw [hd e (hA e hx)]; exact hk⟩
    ·exact .inr ⟨by simp [hx], by rw [hd e (hB e hx)]; exact hk⟩
   ·rintro (⟨hx, hk⟩ | ⟨hx, hk⟩)
    ·rcases List.mem_cons.1 hx with rfl | hx
     ·exact .inl rfl
     ·exact .inr (.inl ⟨hx, by rw [hd e (hA e hx)] at hk; exact hk⟩)
    ·rcases List.mem_cons.1 hx with rfl | hx
     ·exact .inl rfl
     ·exact .inr (.inr ⟨hx, by rw [hd e (hB e hx)] at hk; exact hk⟩)
theorem qpy (ka kb : Ent → Bool) : MSpec ka kb [] [] (some []) :=
 ⟨fun ⟨a, ha, _⟩ => absurd ha (by simp), List.Pairwise.nil, fun e => by simp [InM]⟩
theorem q5t (ka kb : Ent → Bool) : ∀ (n : Nat) (A B : List Ent), A.length + B.length ≤ n → ze6 A → ze6 B → MSpec ka kb A B (q6z ka kb n A B)
 | 0, A, B, h, _, _ => by
  have h1 : A = [] := List.length_eq_zero_iff.1 (by omega)
  have h2 : B = [] := List.length_eq_zero_iff.1 (by omega)
  subst h1; subst h2
  exact qpy ka kb
 | n + 1, [], [], _, _, _ => qpy ka kb
 | n + 1, a :: A, [], h, hA, hB => MSpec.stepA (List.pairwise_cons.1 hA).1 (fun x hx => by cases hx) (q5t ka kb n A [] (by simp at h ⊢; omega) (List.pairwise_cons.1 hA).2 hB)
 | n + 1, [], b :: B, h, hA, hB => (MSpec.stepA (List.pairwise_cons.1 hB).1 (fun x hx => by cases hx) (q5t ka kb n [] B (by simp at h ⊢; omega) hA (List.pairwise_cons.1 hB).2).symm).symm
 | n + 1, a :: A, b :: B, h, hA, hB => by
  obtain ⟨a1, a2⟩ := List.pairwise_cons.1 hA
  obtain ⟨b1, b2⟩ := List.pairwise_cons.1 hB
  simp only [List.length_cons] at h
  unfold q6z
  split
  ·rename_i hab
   refine MSpec.stepA a1 (fun x hx => ?_) (q5t ka kb n A (b :: B) (by simp; omega) a2 hB)
   rcases List.mem_cons.1 hx with rfl | hx
   ·exact hab
   ·exact qah hab (b1 x hx)
  ·rename_i hab
   split
   ·rename_i hba
    refine (MSpec.stepA b1 (fun x hx => ?_) (q5t ka kb n (a :: A) B (by simp; omega) hA b2).symm).symm
    rcases List.mem_cons.1 hx with rfl | hx
    ·exact hba
    ·exact qah hba (a1 x hx)
   ·rename_i hba
    have hd := qt0 a.dot b.dot (by simpa using hab) (by simpa using hba)
    split
    ·rename_i he
     have he := (qbt a b).1 he
     subst he
     exact MSpec.stepBoth a1 b1 (q5t ka kb n A B (by omega) a2 b2)
    ·rename_i he
     exact ⟨a, by simp, b, by simp, hd, fun e => he ((qbt a b).2 e)⟩

def z8a : List SOp := [zO 8 (.assign (.const (.int .i64 0)))]
instance : Live z8a := ⟨[0,1,2,3]⟩
def z89 : List SOp := [zM 10 1,zM 11 0,zO 12 (.call ⟨.builtin .len,#[.tmp 11],#[22]⟩),zO 13 (.binOp .eql 3 (.tmp 10) (.tmp 12) 3),zG 9 13]
instance : Live z89 := ⟨[0,1,2,3]⟩
def z88 : List SOp := [zO 8 (.assign (.const (.int .i64 1)))]
instance : Live z88 := ⟨[]⟩
def z87 : List SOp := [zM 15 3,zM 16 2,zO 17 (.call ⟨.builtin .len,#[.tmp 16],#[22]⟩),zO 18 (.binOp .eql 3 (.tmp 15) (.tmp 17) 3),zG 14 18]
instance : Live z87 := ⟨[0,1,2,3]⟩
def z86 : List SOp := [zO 8 (.assign (.const (.int .i64 (-1))))]
instance : Live z86 := ⟨[]⟩
def z85 : List SOp := [zM 20 0,zM 21 1,zI 22 22 20 21,zF 23 62 22 0,zL 24 41 23,zM 25 2,zM 26 3,zI 27 22 25 26,zF 28 62 27 0,zL 29 41 28,zO 30 (.binOp .eql 41 (.tmp 24) (.tmp 29) 41),zG 19 30]
instance : Live z85 := ⟨[0,1,2,3]⟩
def z84 : List SOp := [zO 8 (.assign (.const (.int .i64 0)))]
instance : Live z84 := ⟨[]⟩
def z83 : List SOp := [zM 32 0,zM 33 1,zI 34 22 32 33,zF 35 62 34 0,zF 36 41 35 0,zL 37 3 36,zM 38 2,zM 39 3,zI 40 22 38 39,zF 41 62 40 0,zF 42 41 41 0,zL 43 3 42,zO 44 (.binOp .neq 3 (.tmp 37) (.tmp 43) 3),zG 31 44]
instance : Live z83 := ⟨[0,1,2,3]⟩
def z82 : List SOp := [zM 45 0,zM 46 1,zI 47 22 45 46,zF 48 62 47 0,zF 49 41 48 0,zL 50 3 49,zM 51 2,zM 52 3,zI 53 22 51 52,zF 54 62 53 0,zF 55 41 54 0,zL 56 3 55,zO 57 (.binOp .sub 3 (.tmp 50) (.tmp 56) 3),zG 8 57]
instance : Live z82 := ⟨[0,1,2,3]⟩
def qpb : List SOp := [zM 58 0,zM 59 1,zI 60 22 58 59,zF 61 62 60 0,zF 62 41 61 1,zL 63 3 62,zM 64 2,zM 65 3,zI 66 22 64 65,zF 67 62 66 0,zF 68 41 67 1,zL 69 3 68,zO 70 (.binOp .sub 3 (.tmp 63) (.tmp 69) 3),zG 8 70]
instance : Live qpb := ⟨[0,1,2,3]⟩
def qg9 : SC :=
 (.seq (.ops false z8a) (.seq (.block 0 (.seq (.ops false z89) (.cond (.tmp 9) (.seq (.ops false z88) .ret) (.seq (.ops false z87) (.cond (.tmp 14) (.seq (.ops false z86) .ret) (.seq (.ops true z85) (.cond (.tmp 19) (.seq (.ops false z84) .ret) (.seq (.ops true z83) (.cond (.tmp 31) (.seq (.ops true z82) .ret) .skip))))))))) (.seq (.ops true qpb) .ret)))
theorem qf2 : FnIs Tryz.prog 112 71 [.tmp 8] qg9 := ⟨Tryz.f112, _, Tryz.func112, rfl, rfl, rfl, rfl, by kernel_rfl⟩

def zj0 : List SOp := [zO 5 (.box 26 (.tmp 1)),zO 7 (.box 26 (.tmp 3)),zO 8 (.assign (.const (.slice none 0 0))),zO 9 (.assign (.const (.int .i64 0)))]
instance : Live zj0 := ⟨[0,1,2,3]⟩
def ziz : List SOp := [zM 14 0,zO 15 (.call ⟨.value (.func 53),#[.tmp 14],#[22]⟩),zO 16 (.binOp .neq 32 (.tmp 15) (.const (.int .i64 0)) 32),zM 17 16,⟨some 18,.load 26 (.tmp 5),some ((some 17),false)⟩,⟨some 19,.call ⟨.value (.func 54),#[.tmp 18],#[26]⟩,some ((some 17),false)⟩,⟨some 20,.unOp .not 4 (.tmp 19),some ((some 17),false)⟩,zO 21 (.pick (.tmp 17) (.const (.bool true)) (.tmp 20)),zM 22 21,⟨some 23,.move (.tmp 2),some ((some 22),false)⟩,⟨some 24,.call ⟨.value (.func 53),#[.tmp 23],#[22]⟩,some ((some 22),false)⟩,⟨some 25,.binOp .neq 32 (.tmp 24) (.const (.int .i64 0)) 32,some ((some 22),false)⟩,zO 26 (.pick (.tmp 22) (.const (.bool true)) (.tmp 25)),zM 27 26,⟨some 28,.load 26 (.tmp 7),some ((some 27),false)⟩,⟨some 29,.call ⟨.value (.func 54),#[.tmp 28],#[26]⟩,some ((some 27),false)⟩,⟨some 30,.unOp .not 4 (.tmp 29),some ((some 27),false)⟩,zO 31 (.pick (.tmp 27) (.const (.bool true)) (.tmp 30))]
instance : Live ziz := ⟨[0,2,5,7]⟩
def ziy : List SOp := [zO 8 (.assign (.const (.slice none 0 0))),zO 9 (.assign (.const (.int .i64 1)))]
instance : Live ziy := ⟨[]⟩
def zix : List SOp := [zO 10 (.assign (.const (.slice none 0 0)))]
instance : Live zix := ⟨[0,2,5,7]⟩
def ziw : List SOp := [zO 11 (.assign (.const (.int .i64 0))),zO 12 (.assign (.const (.int .i64 0)))]
instance : Live ziw := ⟨[0,2,5,7,10]⟩
def ziv : List SOp := [zM 32 11,zM 33 0,zO 34 (.call ⟨.builtin .len,#[.tmp 33],#[22]⟩),zO 35 (.binOp .lss 3 (.tmp 32) (.tmp 34) 3),zM 36 35,⟨some 37,.move (.tmp 12),some ((some 36),false)⟩,⟨some 38,.move (.tmp 2),some ((some 36),false)⟩,⟨some 39,.call ⟨.builtin .len,#[.tmp 38],#[22]⟩,some ((some 36),false)⟩,⟨some 40,.binOp .lss 3 (.tmp 37) (.tmp 39) 3,some ((some 36),false)⟩,zO 41 (.pick (.tmp 36) (.const (.bool true)) (.tmp 40))]
instance : Live ziv := ⟨[0,2,5,7,10,11,12]⟩
def ziu : List SOp := [zM 42 0,zM 43 11,zM 44 2,zM 45 12,zO 46 (.call ⟨.value (.func 112),#[.tmp 42,.tmp 43,.tmp 44,.tmp 45],#[22,3,22,3]⟩),zG 13 46]
instance : Live ziu := ⟨[0,2,5,7,10,11,12]⟩
def zit : List SOp := [zM 68 13,zO 69 (.binOp .lss 3 (.tmp 68) (.const (.int .i64 0)) 3),zG 67 69]
instance : Live zit := ⟨[0,2,5,7,10,11,12,13]⟩
def zis : List SOp := [zL 70 26 7,zM 71 0,zM 72 11,zI 73 22 71 72,zF 74 62 73 0,zL 75 41 74,zO 76 (.call ⟨.value (.func 51),#[.tmp 70,.tmp 75],#[26,41]⟩),zO 77 (.unOp .not 4 (.tmp 76))]
instance : Live zis := ⟨[0,2,5,7,10,11,12]⟩
def qw5 : List SOp := [zM 78 10,zM 79 0,zM 80 11,zI 81 22 79 80,zL 82 62 81,zO 83 (.buildSlice 22 1 #[(0,.tmp 82)]),zO 84 (.call ⟨.builtin .append,#[.tmp 78,.tmp 83],#[22,22]⟩),zG 10 84]
instance : Live qw5 := ⟨[0,2,5,7,10,11,12]⟩
def qw4 : List SOp := [zM 85 11,zO 86 (.binOp .add 3 (.tmp 85) (.const (.int .i64 1)) 3),zG 11 86]
instance : Live qw4 := ⟨[0,2,5,7,10,11,12]⟩
def qw3 : List SOp := [zM 88 13,zO 89 (.binOp .gtr 3 (.tmp 88) (.const (.int .i64 0)) 3),zG 87 89]
instance : Live qw3 := ⟨[0,2,5,7,10,11,12,13]⟩
def qw2 : List SOp := [zL 90 26 5,zM 91 2,zM 92 12,zI 93 22 91 92,zF 94 62 93 0,zL 95 41 94,zO 96 (.call ⟨.value (.func 51),#[.tmp 90,.tmp 95],#[26,41]⟩),zO 97 (.unOp .not 4 (.tmp 96))]
instance : Live qw2 := ⟨[0,2,5,7,10,11,12]⟩
def qw1 : List SOp := [zM 98 10,zM 99 2,zM 100 12,zI 101 22 99 100,zL 102 62 101,zO 103 (.buildSlice 22 1 #[(0,.tmp 102)]),zO 104 (.call ⟨.builtin .append,#[.tmp 98,.tmp 103],#[22,22]⟩),zG 10 104]
instance : Live qw1 := ⟨[0,2,5,7,10,11,12]⟩
def qw0 : List SOp := [zM 105 12,zO 106 (.binOp .add 3 (.tmp 105) (.const (.int .i64 1)) 3),zG 12 106]
instance : Live qw0 := ⟨[0,2,5,7,10,11,12]⟩
def qvz : List SOp := [zM 47 0,zM 48 11,zI 49 22 47 48,zL 50 62 49,zM 51 2,zM 52 12,zI 53 22 51 52,zL 54 62 53,zO 55 (.binOp .neq 62 (.tmp 50) (.tmp 54) 62)]
instance : Live qvz := ⟨[0,2,5,7,10,11,12]⟩
def qvy : List SOp := [zO 8 (.assign (.const (.slice none 0 0))),zO 9 (.assign (.const (.int .i64 10)))]
instance : Live qvy := ⟨[]⟩
def qvx : List SOp := [zM 56 10,zM 57 0,zM 58 11,zI 59 22 57 58,zL 60 62 59,zO 61 (.buildSlice 22 1 #[(0,.tmp 60)]),zO 62 (.call ⟨.builtin .append,#[.tmp 56,.tmp 61],#[22,22]⟩),zG 10 62]
instance : Live qvx := ⟨[0,2,5,7,10,11,12]⟩
def qvw : List SOp := [zM 63 11,zO 64 (.binOp .add 3 (.tmp 63) (.const (.int .i64 1)) 3),zM 65 12,zO 66 (.binOp .add 3 (.tmp 65) (.const (.int .i64 1)) 3),zG 11 64,zG 12 66]
instance : Live qvw := ⟨[0,2,5,7,10,11,12]⟩
def qvv : List SOp := [zM 107 10,zG 8 107,zO 9 (.assign (.const (.int .i64 0)))]
instance : Live qvv := ⟨[10]⟩
def qtz : SC :=
 (.seq (.seq (.ops false ziv) (.cond (.tmp 41) .skip (.exit 0))) (.block 1 (.seq (.ops false ziu) (.block 2 (.seq (.ops false zit) (.cond (.tmp 67) (.seq (.seq (.ops true zis) (.cond (.tmp 77) (.ops false qw5) .skip)) (.ops false qw4)) (.seq (.ops false qw3) (.cond (.tmp 87) (.seq (.seq (.ops true qw2) (.cond (.tmp 97) (.ops false qw1) .skip)) (.ops false qw0)) (.seq (.seq (.ops true qvz) (.cond (.tmp 55) (.seq (.ops false qvy) .ret) .skip)) (.seq (.ops false qvx) (.ops false qvw)))))))))))
def t_k65 : SC :=
 (.seq (.ops false zj0) (.seq (.seq (.ops false ziz) (.cond (.tmp 31) (.seq (.ops false ziy) .ret) .skip)) (.seq (.ops false zix) (.seq (.ops false ziw) (.seq (.block 0 (.loop qtz)) (.seq (.ops false qvv) .ret))))))
theorem it_k65 : FnIs Tryz.prog 65 108 [.tmp 8, .tmp 9] t_k65 := ⟨Tryz.f65, _, Tryz.func65, rfl, rfl, rfl, rfl, by kernel_rfl⟩

theorem zcl (A B : List Ent) (j : Nat) : Ev (En Tryz.prog rfl).P 112 [.sl 4 (q0a A), .int .i64 A.length, .sl 4 (q0a B), .int .i64 j] (.ret (.int .i64 1)) := by
 refine Ev.of_body qf2 (by simp) (Run.start ?_)
 unfold qg9
 have e1 := q0o A
 have hS := qrk
 (have hF := @e1; refine q01 (k:=?_); clear hF)
 exact Fin.tmp' rfl rfl
theorem zck (A B : List Ent) (i : Nat) (hi : i < A.length) : Ev (En Tryz.prog rfl).P 112 [.sl 4 (q0a A), .int .i64 i, .sl 4 (q0a B), .int .i64 B.length] (.ret (.int .i64 (-1))) := by
 refine Ev.of_body qf2 (by simp) (Run.start ?_)
 unfold qg9
 have e1 := q0o A
 have e2 := q0o B
 have hS := qrk
 have h1 : ¬ (i : Int) = (A.length : Int) := by omega
 (have hF := (aI @e1 (aI @e2 @h1)); refine q01 (k:=?_); clear hF)
 exact Fin.tmp' rfl rfl
theorem ent_ok {e : Ent} (h : q2b e = 0) : 0 ≤ e.rep ∧ e.rep < 16 ∧ 1 ≤ e.num ∧ e.num ≤ 1000000000 := by
 unfold q2b at h
 split at h
 ·cases h
 ·split at h
  ·cases h
  ·omega
theorem zoy (A B : List Ent) (i j : Nat) (a b : Ent) (ha : A[i]? = some a) (hb : B[j]? = some b) (oa : q2b a = 0) (ob : q2b b = 0) :
 ∃ c : Int, Ev (En Tryz.prog rfl).P 112 [.sl 4 (q0a A), .int .i64 i, .sl 4 (q0a B), .int .i64 j] (.ret (.int .i64 c)) ∧ (c < 0 ↔ q3h a.dot b.dot = true) ∧ (0 < c ↔ q3h b.dot a.dot = true) := by
 have e1 := q0o A
 have e2 := q0o B
 have hS := qrk
 have hi : i < A.length := by
  rcases Nat.lt_or_ge i A.length with h | h
  ·exact h
  ·rw [List.getElem?_eq_none h] at ha; cases ha
 have hj : j < B.length := by
  rcases Nat.lt_or_ge j B.length with h | h
  ·exact h
  ·rw [List.getElem?_eq_none h] at hb; cases hb
 have n1 : ¬ (i : Int) = (A.length : Int) := by omega
 have n2 : ¬ (j : Int) = (B.length : Int) := by omega
 have g1 := q16 ha
 have g2 := q16 hb
 have pa := ent_ok oa
 have pb := ent_ok ob
 by_cases h1 : a.rep = b.rep
 ·by_cases h2 : a.num = b.num
  ·refine ⟨0, ?_, ?_, ?_⟩
   ·refine Ev.of_body qf2 (by simp) (Run.start ?_)
    unfold qg9
    (have hF := (aI (aI (aI @e1 @e2) (aI @n1 @n2)) (aI (aI @g1 @g2) (aI @h1 @h2))); refine q01 (k:=?_); clear hF)
    exact Fin.tmp' rfl rfl
   ·rw [q4d]; simp only [Ent.dot]; omega
   ·rw [q4d]; simp only [Ent.dot]; omega
  ·refine ⟨a.num - b.num, ?_, ?_, ?_⟩
   ·have hwr : IntKind.i64.wrap (a.num - b.num) = a.num - b.num := q2d (by omega)
    refine Ev.of_body qf2 (by simp) (Run.start ?_)
    unfold qg9
    (have hF := (aI (aI (aI @e1 @e2) (aI @n1 @n2)) (aI (aI @g1 @g2) (aI @h1 (aI @h2 @hwr)))); refine q01 (k:=?_); clear hF)
    exact Fin.tmp' rfl rfl
   ·rw [q4d]; simp only [Ent.dot]; omega
   ·rw [q4d]; simp only [Ent.dot]; omega
 ·refine ⟨a.rep - b.rep, ?_, ?_, ?_⟩
  ·have hwr : IntKind.i64.wrap (a.rep - b.rep) = a.rep - b.rep := q2d (by omega)
   refine Ev.of_body qf2 (by simp) (Run.start ?_)
   unfold qg9
   (have hF := (aI (aI (aI @e1 @e2) (aI @n1 @n2)) (aI (aI @g1 @g2) (aI @h1 @hwr))); refine q01 (k:=?_); clear hF)
   exact Fin.tmp' rfl rfl
  ·rw [q4d]; simp only [Ent.dot]; omega
  ·rw [q4d]; simp only [Ent.dot]; omega
def qft : Option (List Ent) → List Ent | none => [] | some l => l
def errO : Option (List Ent) → Int | none => 10 | some _ => 0
def q1i (p : Pst) (e : Ent) : Bool := !q1l p e.dot
def okM (A : List Ent) (ap : Pst) (B : List Ent) (bp : Pst) : Prop := q6v A = true ∧ q18 ap = true ∧ q6v B = true ∧ q18 bp = true
theorem q6e {r : Option (List Ent)} {x out : List Ent} : (r.map (x ++ ·)).map (out ++ ·) = r.map ((out ++ x) ++ ·) := by cases r <;> simp
theorem zap {r : Option (List Ent)} {a : Ent} {out : List Ent} : (r.map (a :: ·)).map (out ++ ·) = r.map ((out ++ [a]) ++ ·) := by cases r <;> simp
theorem q3v {l : List Ent} {i : Nat} {a : Ent} (h : l[i]? = some a) : l.drop i = a :: l.drop (i + 1) := by
 have hlt : i < l.length := by
  rcases Nat.lt_or_ge i l.length with h' | h'
  ·exact h'
  ·rw [List.getElem?_eq_none h'] at h; cases h
 rw [List.drop_eq_getElem_cons hlt]
 simp only [List.getElem?_eq_getElem hlt, Option.some.injEq] at h
 rw [h]
structure MgS where
 i : Nat
 j : Nat
 out : List Ent
theorem ev_k65 (A B : List Ent) (ap bp : Pst) (hA : A.length ≤ 100000000) (hB : B.length ≤ 100000000) (wa : wt ap ≤ 40000000) (wb : wt bp ≤ 40000000) (hok : okM A ap B bp) :
 Ev (En Tryz.prog rfl).P 65 [.sl 4 (q0a A), q0h ap, .sl 4 (q0a B), q0h bp] (.ret (.tup [.sl 4 (q0a (qft (q6z (q1i bp) (q1i ap) (A.length + B.length) A B))), .int .i64 (errO (q6z (q1i bp) (q1i ap) (A.length + B.length) A B))])) := by
 obtain ⟨o1, o2, o3, o4⟩ := hok
 refine Ev.of_body it_k65 (by simp) (Run.start ?_)
 unfold t_k65 q0h
 have e1 := q0o A
 have e2 := q0o B
 have hS := qrk
 have c1 := qgy A (by omega)
 have c2 := qgx ap wa
 have c3 := qgy B (by omega)
 have c4 := qgx bp wb
 rw [if_pos o1] at c1
 rw [o2] at c2
 rw [if_pos o3] at c3
 rw [o4] at c4
 have hR0 : (q6z (q1i bp) (q1i ap) (A.length + B.length) (A.drop 0) (B.drop 0)).map ([] ++ ·) = q6z (q1i bp) (q1i ap) (A.length + B.length) A B := by
  simp
 generalize q6z (q1i bp) (q1i ap) (A.length + B.length) A B = R at hR0 ⊢
 (have hF := (aI @e1 @e2); refine q01 (k:=?_); clear hF)
 refine q00 [.sl 4 (q0a A)] (he := c1) (k:=?_)
 (have hF := (aI @e1 @e2); refine q01 (k:=?_); clear hF)
 refine q00 [q0h ap] (he := c2) (k:=?_)
 (have hF := (aI @e1 @e2); refine q01 (k:=?_); clear hF)
 refine q00 [.sl 4 (q0a B)] (he := c3) (k:=?_)
 (have hF := (aI @e1 @e2); refine q01 (k:=?_); clear hF)
 refine q00 [q0h bp] (he := c4) (k:=?_)
 (have hF := (aI @e1 @e2); refine q01 (k:=?_); clear hF)
 refine Run.wk (Wk.own_nil 10 84 4 rfl rfl) ?_
 refine Run.while (σ := MgS) (fun z => ⟨tms [(0, .sl 4 (q0a A)), (2, .sl 4 (q0a B)), (5, .ptr 5 0), (7, .ptr 7 0), (10, .os 84 z.out.length), (11, .int .i64 (z.i : Int)), (12, .int .i64 (z.j : Int))], mms [(5, .cells [.sl 1 (q04 ap.vec), .sl 3 (q0c ap.cloud)]), (7, .cells [.sl 1 (q04 bp.vec), .sl 3 (q0c bp.cloud)]), (84, .arr z.out.length 4 (q0a z.out))]⟩)
  (fun z => z.i ≤ A.length ∧ z.j ≤ B.length ∧ z.out.length ≤ z.i + z.j ∧ ∃ n, (A.length - z.i) + (B.length - z.j) ≤ n ∧ (q6z (q1i bp) (q1i ap) n (A.drop z.i) (B.drop z.j)).map (z.out ++ ·) = R) (fun z => (A.length - z.i) + (B.length - z.j)) ⟨0, 0, []⟩ (have hW := @q09; q0g) ⟨Nat.zero_le _, Nat.zero_le _, Nat.le_refl _, _, Nat.le_refl _, hR0⟩ ?_
 rintro ⟨i, j, out⟩ ⟨hi, hj, ho, n, hn, hf⟩
 dsimp only at *
 unfold qtz
 have e3 := q0o out
 by_cases hia : i < A.length
 ·obtain ⟨a, haa⟩ : ∃ a, A[i]? = some a := ⟨A[i], by simp [hia]⟩
  have g1 := q16 haa
  have oa := (qam.1 o1).1 i a haa
  have k1 := zbk bp a.dot (by omega)
  have hka : q1i bp a = !q1l bp a.dot := rfl
  obtain ⟨n, rfl⟩ : ∃ m, n = m + 1 := ⟨n - 1, by omega⟩
  by_cases hjb : j < B.length
  ·obtain ⟨b, hbb⟩ : ∃ b, B[j]? = some b := ⟨B[j], by simp [hjb]⟩
   have g2 := q16 hbb
   have ob := (qam.1 o3).1 j b hbb
   have k2 := zbk ap b.dot (by omega)
   have hkb : q1i ap b = !q1l ap b.dot := rfl
   obtain ⟨c, c5, p1, p2⟩ := zoy A B i j a b haa hbb oa ob
   rw [q3v haa, q3v hbb] at hf
   unfold q6z at hf
   rw [← q3v haa, ← q3v hbb] at hf
   (have hF := (aI @e1 @e2); refine q01 (k:=?_); clear hF)
   refine q00 [.sl 4 (q0a A), .int .i64 i, .sl 4 (q0a B), .int .i64 j] (he := c5) (k:=?_)
   by_cases hc1 : c < 0
   ·rw [if_pos (p1.1 hc1), q6e, hka] at hf
    (have hF := (aI (aI @e1 (aI @e2 @e3)) (aI @g1 (aI @g2 @hc1))); refine q01 (k:=?_); clear hF)
    refine q00 [q0h bp, q47 a.dot] (he := k1) (k:=?_)
    cases hh : q1l bp a.dot <;> rw [hh] at hf
    ·(have hF := (aI (aI @e1 @e2) (aI @e3 (aI @g1 @g2))); refine q01 (k:=?_); clear hF)
     (refine Fin.nextW (⟨i + 1, j, out ++ [a]⟩) ?_ (have hW := (aI @q09 @q15); q0g); (try dsimp only))
     exact ⟨⟨hia, hj, by simp; omega, n, by omega, hf⟩, by omega⟩
    ·(have hF := (aI (aI @e1 @e2) (aI @e3 (aI @g1 @g2))); refine q01 (k:=?_); clear hF)
     (refine Fin.nextW (⟨i + 1, j, out⟩) ?_ (have hW := (aI @q09 @q15); q0g); (try dsimp only))
     exact ⟨⟨hia, hj, by omega, n, by omega, by simpa [qgk] using hf⟩, by omega⟩
   ·rw [if_neg (fun h => hc1 (p1.2 h))] at hf
    by_cases hc2 : 0 < c
    ·rw [if_pos (p2.1 hc2), q6e, hkb] at hf
     (have hF := (aI (aI @e1 (aI @e2 @e3)) (aI (aI @g1 @g2) (aI @hc1 @hc2))); refine q01 (k:=?_); clear hF)
     refine q00 [q0h ap, q47 b.dot] (he := k2) (k:=?_)
     cases hh : q1l ap b.dot <;> rw [hh] at hf
     ·(have hF := (aI (aI @e1 @e2) (aI @e3 (aI @g1 @g2))); refine q01 (k:=?_); clear hF)
      (refine Fin.nextW (⟨i, j + 1, out ++ [b]⟩) ?_ (have hW := (aI @q09 @q15); q0g); (try dsimp only))
      exact ⟨⟨hi, hjb, by simp; omega, n, by omega, hf⟩, by omega⟩
     ·(have hF := (aI (aI @e1 @e2) (aI @e3 (aI @g1 @g2))); refine q01 (k:=?_); clear hF)
      (refine Fin.nextW (⟨i, j + 1, out⟩) ?_ (have hW := (aI @q09 @q15); q0g); (try dsimp only))
      exact ⟨⟨hi, hjb, by omega, n, by omega, by simpa [qgk] using hf⟩, by omega⟩
    ·rw [if_neg (fun h => hc2 (p2.2 h))] at hf
     by_cases he : a = b
     ·subst he
      rw [if_pos ((qbt a a).2 rfl), zap] at hf
      (have hF := (aI (aI @e1 (aI @e2 @e3)) (aI (aI @g1 @g2) (aI @hc1 @hc2))); refine q01 (k:=?_); clear hF)
      (refine Fin.nextW (⟨i + 1, j + 1, out ++ [a]⟩) ?_ (have hW := (aI @q09 @q15); q0g); (try dsimp only))
      refine ⟨⟨hia, hjb, by simp; omega, n, by omega, hf⟩, by omega⟩
     ·have he' : eqE a b = false := by
       cases h : eqE a b with
       | true => exact absurd ((qbt a b).1 h) he
       | false => rfl
      rw [if_neg (by rw [he']; decide)] at hf
      have hRn : R = none := hf.symm
      rw [hRn]
      have hdd : a.dot = b.dot := qt0 _ _ (by
       cases h : q3h a.dot b.dot with
       | true => exact absurd (p1.2 h) hc1
       | false => rfl) (by
       cases h : q3h b.dot a.dot with
       | true => exact absurd (p2.2 h) hc2
       | false => rfl)
      have r1 : a.rep = b.rep := congrArg Prod.fst hdd
      have r2 : a.num = b.num := congrArg Prod.snd hdd
      by_cases r3 : a.sku = b.sku
      ·have r4 : ¬ a.qty = b.qty := fun h => he (by cases a; cases b; simp at r1 r2 r3 h ⊢; exact ⟨r1, r2, r3, h⟩)
       (have hF := (aI (aI (aI @e1 @e2) (aI @e3 (aI @g1 @g2))) (aI (aI @hc1 (aI @hc2 @r1)) (aI @r2 (aI @r3 @r4)))); refine q01 (k:=?_); clear hF)
       exact Fin.two (x := .nil) (x' := .int .i64 10) rfl rfl rfl rfl (.inr ⟨rfl, 4, rfl⟩) (.inl rfl)
      ·(have hF := (aI (aI (aI @e1 @e2) (aI @e3 (aI @g1 @g2))) (aI (aI @hc1 @hc2) (aI @r1 (aI @r2 @r3)))); refine q01 (k:=?_); clear hF)
       exact Fin.two (x := .nil) (x' := .int .i64 10) rfl rfl rfl rfl (.inr ⟨rfl, 4, rfl⟩) (.inl rfl)
  ·have hj' : j = B.length := by omega
   subst hj'
   rw [q3v haa, List.drop_length] at hf
   unfold q6z at hf
   rw [q6e, hka] at hf
   have c5 := zck A B i hia
   (have hF := (aI @e1 @e2); refine q01 (k:=?_); clear hF)
   refine q00 [.sl 4 (q0a A), .int .i64 i, .sl 4 (q0a B), .int .i64 B.length] (he := c5) (k:=?_)
   (have hF := (aI (aI @e1 @e2) (aI @e3 @g1)); refine q01 (k:=?_); clear hF)
   refine q00 [q0h bp, q47 a.dot] (he := k1) (k:=?_)
   cases hh : q1l bp a.dot <;> rw [hh] at hf
   ·(have hF := (aI (aI @e1 @e2) (aI @e3 @g1)); refine q01 (k:=?_); clear hF)
    (refine Fin.nextW (⟨i + 1, B.length, out ++ [a]⟩) ?_ (have hW := (aI @q09 @q15); q0g); (try dsimp only))
    exact ⟨⟨hia, Nat.le_refl _, by simp; omega, n, by omega, by rw [List.drop_length]; exact hf⟩, by omega⟩
   ·(have hF := (aI (aI @e1 @e2) (aI @e3 @g1)); refine q01 (k:=?_); clear hF)
    (refine Fin.nextW (⟨i + 1, B.length, out⟩) ?_ (have hW := (aI @q09 @q15); q0g); (try dsimp only))
    exact ⟨⟨hia, Nat.le_refl _, by omega, n, by omega, by rw [List.drop_length]; simpa [qgk] using hf⟩, by omega⟩
 ·have hi' : i = A.length := by omega
  subst hi'
  by_cases hjb : j < B.length
  ·obtain ⟨b, hbb⟩ : ∃ b, B[j]? = some b := ⟨B[j], by simp [hjb]⟩
   have g2 := q16 hbb
   have k2 := zbk ap b.dot (by omega)
   have hkb : q1i ap b = !q1l ap b.dot := rfl
   obtain ⟨n, rfl⟩ : ∃ m, n = m + 1 := ⟨n - 1, by omega⟩
   rw [q3v hbb, List.drop_length] at hf
   unfold q6z at hf
   rw [q6e, hkb] at hf
   have c5 := zcl A B j
   (have hF := (aI @e1 @e2); refine q01 (k:=?_); clear hF)
   refine q00 [.sl 4 (q0a A), .int .i64 A.length, .sl 4 (q0a B), .int .i64 j] (he := c5) (k:=?_)
   (have hF := (aI (aI @e1 @e2) (aI @e3 @g2)); refine q01 (k:=?_); clear hF)
   refine q00 [q0h ap, q47 b.dot] (he := k2) (k:=?_)
   cases hh : q1l ap b.dot <;> rw [hh] at hf
   ·(have hF := (aI (aI @e1 @e2) (aI @e3 @g2)); refine q01 (k:=?_); clear hF)
    (refine Fin.nextW (⟨A.length, j + 1, out ++ [b]⟩) ?_ (have hW := (aI @q09 @q15); q0g); (try dsimp only))
    exact ⟨⟨Nat.le_refl _, hjb, by simp; omega, n, by omega, by rw [List.drop_length]; exact hf⟩, by omega⟩
   ·(have hF := (aI (aI @e1 @e2) (aI @e3 @g2)); refine q01 (k:=?_); clear hF)
    (refine Fin.nextW (⟨A.length, j + 1, out⟩) ?_ (have hW := (aI @q09 @q15); q0g); (try dsimp only))
    exact ⟨⟨Nat.le_refl _, hjb, by omega, n, by omega, by rw [List.drop_length]; simpa [qgk] using hf⟩, by omega⟩
  ·have hRs : R = some out := by
    rw [List.drop_length, List.drop_eq_nil_of_le (by omega)] at hf
    rw [← hf]
    cases n <;> simp [q6z]
   rw [hRs]
   (have hF := (aI @e1 (aI @e2 @e3)); refine q01 (k:=?_); clear hF)
   exact Fin.two (x := .sl 4 (q0a out)) (by simp [fz, fzc, q55, upd, tms, mms]) (q09 _) rfl rfl (.inl rfl) (.inl rfl)

open Classical in
noncomputable def leftF (A B : List Ent) (bp : Pst) : List Ent := A.filter fun e => decide (q4n B e.dot) || q1i bp e

open Classical in
noncomputable def mrgP (A : List Ent) (ap : Pst) (B : List Ent) (bp : Pst) : List Ent × Int :=
 if okM A ap B bp then (qft (q6z (q1i bp) (q1i ap) (A.length + B.length) A B), errO (q6z (q1i bp) (q1i ap) (A.length + B.length) A B)) else ([], 1)

structure Swt where
 live : List Ent
 past : Pst
 defer : List Rec
structure Fct where
 adds : List Ent
 gone : Pst
 recs : List Rec
theorem qf3 (p : Pst) (r : Nat) (n : Int) : inP p r n ↔ q1l p ((r : Int), n) = true := by
 rw [q1w]
 simp
theorem qbl {p q : Pst} (hp : CanP p) (hq : CanP q) (h : ∀ d, q1l p d = true ↔ q1l q d = true) : p = q :=
 hp.ext hq fun r _ n => by rw [qf3, qf3, h]
theorem q4h {p q : Pst} : q0n p q = true ↔ ∀ d, q1l p d = true → q1l q d = true := by
 constructor
 ·exact fun h d hd => zd9 h hd
 ·intro h
  refine q2h.2 fun r _ n hn => ?_
  rw [qf3] at hn ⊢
  exact h _ hn
def q3g (l : List Ent) : Pst := ofP (l.map Ent.dot)
theorem canP_of2 (ds : List Rn) : CanP (ofP ds) := qt6 _ (zpb ds).1
theorem zdq {e : Ent} (h : q2b e = 0) : 0 ≤ e.rep ∧ e.rep < 16 ∧ 1 ≤ e.num ∧ e.num ≤ 1000000000 := by
 unfold q2b at h
 split at h
 ·omega
 ·split at h
  ·omega
  ·omega
theorem q6k {l : List Ent} (h : ∀ e ∈ l, q2b e = 0) (d : Rn) : q1l (q3g l) d = true ↔ q4n l d := by
 rw [q1w]
 unfold q3g q4n
 constructor
 ·rintro ⟨h0, hd⟩
  have := ((zpc _ (q8g hd) _).1 hd).2.2
  obtain ⟨e, he, hed⟩ := List.mem_map.1 this
  refine ⟨e, he, ?_⟩
  rw [hed]
  have : ((d.1.toNat : Nat) : Int) = d.1 := Int.toNat_of_nonneg h0
  rw [this]
 ·rintro ⟨e, he, rfl⟩
  obtain ⟨h1, h2, h3, h4⟩ := zdq (h e he)
  refine ⟨h1, (zpc _ (show e.dot.1.toNat < 16 by show e.rep.toNat < 16; omega) _).2 ⟨h3, h4, ?_⟩⟩
  have : ((e.dot.1.toNat : Nat) : Int) = e.dot.1 := Int.toNat_of_nonneg h1
  rw [this]
  exact List.mem_map.2 ⟨e, he, rfl⟩
theorem q39 {l : List Ent} (h : q80 l) : ∀ e ∈ l, q2b e = 0 := fun e he => by
 obtain ⟨i, hi⟩ := List.mem_iff_getElem?.1 he
 exact h.1 i e hi
structure FormS (s : Swt) : Prop where
 live : q80 s.live
 past : CanP s.past
 defer : q3s s.defer
 dots : q0n (q3g s.live) s.past = true
 waits : ∀ r ∈ s.defer, q0n r.past s.past = false
 bars : ∀ e ∈ s.live, ¬ q68 s.defer e
def qbu (A B : List Ent) : Option (List Ent) := q6z (fun _ => true) (fun _ => true) (A.length + B.length) A B
theorem q8k {A B : List Ent} (hA : q80 A) (hB : q80 B) : match qbu A B with | none => Clash A B | some L => ¬ Clash A B ∧ ze6 L ∧ ∀ e, e ∈ L ↔ e ∈ A ∨ e ∈ B := by
 have h := q5t (fun _ => true) (fun _ => true) _ A B (Nat.le_refl _) (q5l hA.2) (q5l hB.2)
 unfold qbu
 generalize q6z (fun _ => true) (fun _ => true) (A.length + B.length) A B = r at h ⊢
 cases r with
 | none => exact h
 | some L =>
  refine ⟨h.1, h.2.1, fun e => ?_⟩
  rw [h.2.2 e]
  unfold InM
  simp
def q51 (a b : Swt) : List Rec := q84 (a.defer ++ b.defer)
def q32 (a b : Swt) : Option (List Ent) := q6z (q1i b.past) (q1i a.past) (a.live.length + b.live.length) a.live b.live
noncomputable def qbi (a b : Swt) : Swt := ⟨q3z (q51 a b) (qft (q32 a b)), q1e [a.past, b.past], q0x (q51 a b) (q1e [a.past, b.past])⟩
def q85 (adds : List Ent) (gone : Pst) (recs : List Rec) : List Ent := adds.filter fun e => !q1l gone e.dot && decide (q6a recs e = 0)
theorem q7r {a b : Swt} (ha : FormS a) (hb : FormS b) : MSpec (q1i b.past) (q1i a.past) a.live b.live (q32 a b) :=
 q5t _ _ _ a.live b.live (Nat.le_refl _) (q5l ha.live.2) (q5l hb.live.2)
theorem q91 {a b : Swt} (ha : FormS a) (hb : FormS b) : (q32 a b = none ↔ Clash a.live b.live) ∧ (qbu a.live b.live = none ↔ Clash a.live b.live) := by
 have h1 := q7r ha hb
 have h2 := q8k ha.live hb.live
 constructor
 ·cases hm : q32 a b with
  | none => rw [hm] at h1; exact ⟨fun _ => h1, fun _ => rfl⟩
  | some L => rw [hm] at h1; exact ⟨fun h => (by cases h), fun h => absurd h h1.1⟩
 ·cases hm : qbu a.live b.live with
  | none => rw [hm] at h2; exact ⟨fun _ => h2, fun _ => rfl⟩
  | some L => rw [hm] at h2; exact ⟨fun h => (by cases h), fun h => absurd h h2.1⟩
structure FormF (f : Fct) : Prop where
 adds : q80 f.adds
 gone : CanP f.gone
 recs : q3s f.recs
open Classical in
noncomputable def q3j (f : Fct) : Int := if ¬ FormF f then 1 else match f.adds, f.recs with
 | [e], [] => if qcl f.gone e.rep < e.num then 0 else 2
 | [], [] => 0
 | [], [_] => if q2x f.gone = 0 then 0 else 2
 | _, _ => 2
def evS (f : Fct) : Swt := ⟨f.adds, q1e [q3g f.adds, f.gone], f.recs⟩
theorem size_has {p : Pst} (h : ∀ d, q1l p d = false) : q2x p = 0 := by
 have hz : q2x (q3o p p) = 0 := by
  have := qdf p p
  rw [qdg] at this
  simpa using this
 rw [qb6] at hz ⊢
 rw [← hz]
 congr 1
 exact q9v fun r _ n _ _ => by rw [qf3, qf3, qq9, h]; simp
theorem qrw {f : Fct} (h : q3j f = 0) : q85 f.adds f.gone f.recs = f.adds ∧ q0x f.recs (q1e [q3g f.adds, f.gone]) = f.recs := by
 unfold q3j at h
 split at h
 ·omega
 rename_i hf
 simp only [Classical.not_not] at hf
 split at h
 ·rename_i e ha hr
  rw [ha, hr]
  split at h
  ·rename_i hl
   refine ⟨?_, rfl⟩
   have hn : q1l f.gone e.dot = false := by
    cases hh : q1l f.gone e.dot with
    | false => rfl
    | true => have := has_last hh; have : e.num ≤ qcl f.gone e.rep := this; omega
   simp [q85, q6a, hn]
  ·omega
 ·rename_i ha hr
  rw [ha, hr]
  exact ⟨rfl, rfl⟩
 ·rename_i r ha hr
  rw [ha, hr]
  split at h
  ·rename_i hs
   refine ⟨rfl, ?_⟩
   have hrs : q2x r.past ≠ 0 := (q37 hf.recs r (by rw [hr]; simp)).2.1
   have hnw : q0n r.past (q1e [q3g [], f.gone]) = false := by
    cases hw : q0n r.past (q1e [q3g [], f.gone]) with
    | false => rfl
    | true =>
     exfalso
     apply hrs
     refine size_has fun d => ?_
     cases hd : q1l r.past d with
     | false => rfl
     | true =>
      have := q4h.1 hw d hd
      rw [q4p, Bool.or_eq_true, q6k (by simp)] at this
      rcases this with ⟨e, he, _⟩ | h2
      ·cases he
      ·have := qir h2; omega
   unfold q0x
   simp [hnw]
  ·omega
 ·omega

end Go.Proofs.YthejoeiecenjkaaGreat.Avm
