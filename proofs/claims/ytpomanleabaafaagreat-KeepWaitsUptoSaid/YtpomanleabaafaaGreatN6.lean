/-
  The law KeepWaits holds: for every case of bulk at most 1048576 the call returns true and the case reads behind it as it read before.
-/
import Derived.Test.YtpomanleabaafaaGreatN5
import Derived.Test.YtpomanleabaafaaGreatProg
import Derived.KernelRfl
set_option maxRecDepth 100000
set_option maxHeartbeats 4000000
set_option linter.unusedVariables false
set_option linter.unusedSimpArgs false
set_option linter.unusedSectionVars false
set_option linter.defProp false
namespace Go.Proofs.YtpomanleabaafaaGreat.Avm
open Go.Proofs
def r_k9_1 : List SOp := [⟨some 1,.box 29 (.tmp 0),none⟩,⟨some 2,.assign (.const (.bool false)),none⟩]
instance : Live r_k9_1 := ⟨[0]⟩
def r_k9_2 : List SOp := [⟨some 24,.call ⟨.value (.func 11),#[],#[]⟩,none⟩,⟨some 25,.unOp .not 4 (.tmp 24),none⟩]
instance : Live r_k9_2 := ⟨[1]⟩
def r_k9_3 : List SOp := [⟨some 2,.assign (.const (.bool false)),none⟩]
instance : Live r_k9_3 := ⟨[]⟩
def r_k9_4 : List SOp := [⟨some 26,.fieldAddr 29 (.tmp 1) 4,none⟩,⟨some 27,.load 27 (.tmp 26),none⟩,⟨some 28,.call ⟨.value (.func 41),#[.tmp 27],#[27]⟩,none⟩,⟨some 3,.alloc 27,none⟩,⟨none,.store 27 (.tmp 3) (.tmp 28),none⟩]
instance : Live r_k9_4 := ⟨[1]⟩
def r_k9_5 : List SOp := [⟨some 30,.fieldAddr 29 (.tmp 1) 0,none⟩,⟨some 31,.load 22 (.tmp 30),none⟩,⟨some 32,.fieldAddr 29 (.tmp 1) 1,none⟩,⟨some 33,.load 22 (.tmp 32),none⟩,⟨some 34,.call ⟨.value (.func 36),#[.tmp 31,.tmp 33],#[22,22]⟩,none⟩,⟨some 29,.move (.tmp 34),none⟩,⟨some 35,.extract (.tmp 29) 0,none⟩,⟨some 36,.extract (.tmp 29) 1,none⟩,⟨some 4,.assign (.tmp 35),none⟩,⟨some 5,.assign (.tmp 36),none⟩]
instance : Live r_k9_5 := ⟨[1,3]⟩
def r_k9_6 : List SOp := [⟨some 37,.fieldAddr 29 (.tmp 1) 0,none⟩,⟨some 38,.load 22 (.tmp 37),none⟩,⟨some 39,.call ⟨.value (.func 15),#[.tmp 38],#[22]⟩,none⟩,⟨some 40,.binOp .neq 32 (.tmp 39) (.const (.int .i64 0)) 32,none⟩,⟨some 41,.move (.tmp 40),none⟩,⟨some 42,.fieldAddr 29 (.tmp 1) 1,some ((some 41),false)⟩,⟨some 43,.load 22 (.tmp 42),some ((some 41),false)⟩,⟨some 44,.call ⟨.value (.func 15),#[.tmp 43],#[22]⟩,some ((some 41),false)⟩,⟨some 45,.binOp .neq 32 (.tmp 44) (.const (.int .i64 0)) 32,some ((some 41),false)⟩,⟨some 46,.pick (.tmp 41) (.const (.bool true)) (.tmp 45),none⟩]
instance : Live r_k9_6 := ⟨[1,3,4,5]⟩
def r_k9_7 : List SOp := [⟨some 47,.move (.tmp 5),none⟩,⟨some 48,.binOp .eql 32 (.tmp 47) (.const (.int .i64 1)) 32,none⟩,⟨some 2,.assign (.tmp 48),none⟩]
instance : Live r_k9_7 := ⟨[5]⟩
def r_k9_8 : List SOp := [⟨some 49,.move (.tmp 5),none⟩,⟨some 50,.binOp .neq 32 (.tmp 49) (.const (.int .i64 0)) 32,none⟩,⟨some 51,.move (.tmp 50),none⟩,⟨some 52,.move (.tmp 4),some ((some 51),false)⟩,⟨some 53,.call ⟨.value (.func 15),#[.tmp 52],#[22]⟩,some ((some 51),false)⟩,⟨some 54,.binOp .neq 32 (.tmp 53) (.const (.int .i64 0)) 32,some ((some 51),false)⟩,⟨some 55,.pick (.tmp 51) (.const (.bool true)) (.tmp 54),none⟩,⟨some 56,.move (.tmp 55),none⟩,⟨some 57,.move (.tmp 4),some ((some 56),false)⟩,⟨some 58,.call ⟨.value (.func 14),#[.tmp 57],#[22]⟩,some ((some 56),false)⟩,⟨some 59,.binOp .neq 32 (.tmp 58) (.const (.int .i64 0)) 32,some ((some 56),false)⟩,⟨some 60,.pick (.tmp 56) (.const (.bool true)) (.tmp 59),none⟩]
instance : Live r_k9_8 := ⟨[1,3,4,5]⟩
def r_k9_9 : List SOp := [⟨some 2,.assign (.const (.bool false)),none⟩]
instance : Live r_k9_9 := ⟨[]⟩
def r_k9_10 : List SOp := [⟨some 62,.move (.tmp 4),none⟩,⟨some 63,.load 27 (.tmp 3),none⟩,⟨some 64,.call ⟨.value (.func 38),#[.tmp 62,.tmp 63],#[22,27]⟩,none⟩,⟨some 61,.move (.tmp 64),none⟩,⟨some 65,.extract (.tmp 61) 0,none⟩,⟨some 66,.extract (.tmp 61) 1,none⟩,⟨some 6,.assign (.tmp 65),none⟩,⟨some 7,.assign (.tmp 66),none⟩]
instance : Live r_k9_10 := ⟨[1,3,4]⟩
def r_k9_11 : List SOp := [⟨some 68,.fieldAddr 29 (.tmp 1) 0,none⟩,⟨some 69,.load 22 (.tmp 68),none⟩,⟨some 70,.load 27 (.tmp 3),none⟩,⟨some 71,.call ⟨.value (.func 38),#[.tmp 69,.tmp 70],#[22,27]⟩,none⟩,⟨some 67,.move (.tmp 71),none⟩,⟨some 72,.extract (.tmp 67) 0,none⟩,⟨some 73,.extract (.tmp 67) 1,none⟩,⟨some 8,.assign (.tmp 72),none⟩,⟨some 9,.assign (.tmp 73),none⟩]
instance : Live r_k9_11 := ⟨[1,3,4,6,7]⟩
def r_k9_12 : List SOp := [⟨some 75,.fieldAddr 29 (.tmp 1) 1,none⟩,⟨some 76,.load 22 (.tmp 75),none⟩,⟨some 77,.load 27 (.tmp 3),none⟩,⟨some 78,.call ⟨.value (.func 38),#[.tmp 76,.tmp 77],#[22,27]⟩,none⟩,⟨some 74,.move (.tmp 78),none⟩,⟨some 79,.extract (.tmp 74) 0,none⟩,⟨some 80,.extract (.tmp 74) 1,none⟩,⟨some 10,.assign (.tmp 79),none⟩,⟨some 11,.assign (.tmp 80),none⟩]
instance : Live r_k9_12 := ⟨[1,3,4,6,7,8,9]⟩
def r_k9_13 : List SOp := [⟨some 82,.move (.tmp 8),none⟩,⟨some 83,.move (.tmp 10),none⟩,⟨some 84,.call ⟨.value (.func 36),#[.tmp 82,.tmp 83],#[22,22]⟩,none⟩,⟨some 81,.move (.tmp 84),none⟩,⟨some 85,.extract (.tmp 81) 0,none⟩,⟨some 86,.extract (.tmp 81) 1,none⟩,⟨some 12,.assign (.tmp 85),none⟩,⟨some 13,.assign (.tmp 86),none⟩]
instance : Live r_k9_13 := ⟨[1,3,4,6,7,8,9,10,11]⟩
def r_k9_14 : List SOp := [⟨some 87,.move (.tmp 7),none⟩,⟨some 88,.binOp .neq 32 (.tmp 87) (.const (.int .i64 0)) 32,none⟩,⟨some 89,.move (.tmp 88),none⟩,⟨some 90,.move (.tmp 9),some ((some 89),false)⟩,⟨some 91,.binOp .neq 32 (.tmp 90) (.const (.int .i64 0)) 32,some ((some 89),false)⟩,⟨some 92,.pick (.tmp 89) (.const (.bool true)) (.tmp 91),none⟩,⟨some 93,.move (.tmp 92),none⟩,⟨some 94,.move (.tmp 11),some ((some 93),false)⟩,⟨some 95,.binOp .neq 32 (.tmp 94) (.const (.int .i64 0)) 32,some ((some 93),false)⟩,⟨some 96,.pick (.tmp 93) (.const (.bool true)) (.tmp 95),none⟩,⟨some 97,.move (.tmp 96),none⟩,⟨some 98,.move (.tmp 13),some ((some 97),false)⟩,⟨some 99,.binOp .neq 32 (.tmp 98) (.const (.int .i64 0)) 32,some ((some 97),false)⟩,⟨some 100,.pick (.tmp 97) (.const (.bool true)) (.tmp 99),none⟩,⟨some 101,.move (.tmp 100),none⟩,⟨some 102,.move (.tmp 6),some ((some 101),false)⟩,⟨some 103,.move (.tmp 12),some ((some 101),false)⟩,⟨some 104,.call ⟨.value (.func 16),#[.tmp 102,.tmp 103],#[22,22]⟩,some ((some 101),false)⟩,⟨some 105,.unOp .not 4 (.tmp 104),some ((some 101),false)⟩,⟨some 106,.pick (.tmp 101) (.const (.bool true)) (.tmp 105),none⟩]
instance : Live r_k9_14 := ⟨[1,3,4,6,7,9,11,12,13]⟩
def r_k9_15 : List SOp := [⟨some 2,.assign (.const (.bool false)),none⟩]
instance : Live r_k9_15 := ⟨[]⟩
def r_k9_16 : List SOp := [⟨some 107,.load 27 (.tmp 3),none⟩,⟨some 108,.fieldAddr 29 (.tmp 1) 5,none⟩,⟨some 109,.load 27 (.tmp 108),none⟩,⟨some 110,.buildSlice 101 2 #[(0,.tmp 107),(1,.tmp 109)],none⟩,⟨some 111,.call ⟨.value (.func 42),#[.tmp 110],#[101]⟩,none⟩,⟨some 14,.alloc 27,none⟩,⟨none,.store 27 (.tmp 14) (.tmp 111),none⟩]
instance : Live r_k9_16 := ⟨[1,3,4,6]⟩
def r_k9_17 : List SOp := [⟨some 113,.move (.tmp 4),none⟩,⟨some 114,.load 27 (.tmp 14),none⟩,⟨some 115,.call ⟨.value (.func 38),#[.tmp 113,.tmp 114],#[22,27]⟩,none⟩,⟨some 112,.move (.tmp 115),none⟩,⟨some 116,.extract (.tmp 112) 0,none⟩,⟨some 117,.extract (.tmp 112) 1,none⟩,⟨some 15,.assign (.tmp 116),none⟩,⟨some 16,.assign (.tmp 117),none⟩]
instance : Live r_k9_17 := ⟨[4,6,14]⟩
def r_k9_18 : List SOp := [⟨some 118,.load 27 (.tmp 14),none⟩,⟨some 17,.alloc 27,none⟩,⟨none,.store 27 (.tmp 17) (.tmp 118),none⟩]
instance : Live r_k9_18 := ⟨[4,6,14,15]⟩
def r_k9_19 : List SOp := [⟨some 18,.assign (.const (.int .i64 0)),none⟩]
instance : Live r_k9_19 := ⟨[4,6,14,15,17]⟩
def r_k9_20 : List SOp := [⟨some 119,.move (.tmp 18),none⟩,⟨some 120,.move (.tmp 15),none⟩,⟨some 121,.call ⟨.builtin .len,#[.tmp 120],#[22]⟩,none⟩,⟨some 122,.binOp .lss 3 (.tmp 119) (.tmp 121) 3,none⟩]
instance : Live r_k9_20 := ⟨[4,6,14,15,17,18]⟩
def r_k9_21 : List SOp := [⟨some 126,.move (.tmp 6),none⟩,⟨some 127,.move (.tmp 15),none⟩,⟨some 128,.move (.tmp 18),none⟩,⟨some 129,.move (.tmp 18),none⟩,⟨some 130,.binOp .add 3 (.tmp 129) (.const (.int .i64 1)) 3,none⟩,⟨some 131,.slice 22 (.tmp 127) (some (.tmp 128)) (some (.tmp 130)) none,none⟩,⟨some 132,.call ⟨.value (.func 36),#[.tmp 126,.tmp 131],#[22,22]⟩,none⟩,⟨some 125,.move (.tmp 132),none⟩,⟨some 133,.extract (.tmp 125) 0,none⟩,⟨some 134,.extract (.tmp 125) 1,none⟩,⟨some 19,.assign (.tmp 133),none⟩,⟨some 20,.assign (.tmp 134),none⟩]
instance : Live r_k9_21 := ⟨[4,6,14,15,17,18]⟩
def r_k9_22 : List SOp := [⟨some 135,.move (.tmp 19),none⟩,⟨some 136,.move (.tmp 6),none⟩,⟨some 137,.call ⟨.value (.func 16),#[.tmp 135,.tmp 136],#[22,22]⟩,none⟩,⟨some 138,.unOp .not 4 (.tmp 137),none⟩,⟨some 139,.move (.tmp 138),none⟩,⟨some 140,.move (.tmp 15),some ((some 139),false)⟩,⟨some 141,.move (.tmp 18),some ((some 139),false)⟩,⟨some 142,.indexAddr 22 (.tmp 140) (.tmp 141),some ((some 139),false)⟩,⟨some 143,.fieldAddr 39 (.tmp 142) 1,some ((some 139),false)⟩,⟨some 144,.load 27 (.tmp 143),some ((some 139),false)⟩,⟨some 145,.load 27 (.tmp 14),some ((some 139),false)⟩,⟨some 146,.call ⟨.value (.func 43),#[.tmp 144,.tmp 145],#[27,27]⟩,some ((some 139),false)⟩,⟨some 147,.pick (.tmp 139) (.const (.bool true)) (.tmp 146),none⟩]
instance : Live r_k9_22 := ⟨[4,6,14,15,17,18,19]⟩
def r_k9_23 : List SOp := [⟨some 2,.assign (.const (.bool false)),none⟩]
instance : Live r_k9_23 := ⟨[]⟩
def r_k9_24 : List SOp := [⟨some 123,.move (.tmp 18),none⟩,⟨some 124,.binOp .add 3 (.tmp 123) (.const (.int .i64 1)) 3,none⟩,⟨some 18,.assign (.tmp 124),none⟩]
instance : Live r_k9_24 := ⟨[4,6,14,15,17,18]⟩
def r_k9_25 : List SOp := [⟨some 21,.assign (.const (.int .i64 0)),none⟩]
instance : Live r_k9_25 := ⟨[4,17]⟩
def r_k9_26 : List SOp := [⟨some 148,.move (.tmp 21),none⟩,⟨some 149,.move (.tmp 4),none⟩,⟨some 150,.call ⟨.builtin .len,#[.tmp 149],#[22]⟩,none⟩,⟨some 151,.binOp .lss 3 (.tmp 148) (.tmp 150) 3,none⟩]
instance : Live r_k9_26 := ⟨[4,17,21]⟩
def r_k9_27 : List SOp := [⟨some 154,.load 27 (.tmp 17),none⟩,⟨some 155,.move (.tmp 4),none⟩,⟨some 156,.move (.tmp 21),none⟩,⟨some 157,.indexAddr 22 (.tmp 155) (.tmp 156),none⟩,⟨some 158,.fieldAddr 39 (.tmp 157) 1,none⟩,⟨some 159,.load 27 (.tmp 158),none⟩,⟨some 160,.buildSlice 101 2 #[(0,.tmp 154),(1,.tmp 159)],none⟩,⟨some 161,.call ⟨.value (.func 42),#[.tmp 160],#[101]⟩,none⟩,⟨none,.store 27 (.tmp 17) (.tmp 161),none⟩]
instance : Live r_k9_27 := ⟨[4,17,21]⟩
def r_k9_28 : List SOp := [⟨some 152,.move (.tmp 21),none⟩,⟨some 153,.binOp .add 3 (.tmp 152) (.const (.int .i64 1)) 3,none⟩,⟨some 21,.assign (.tmp 153),none⟩]
instance : Live r_k9_28 := ⟨[4,17,21]⟩
def r_k9_29 : List SOp := [⟨some 163,.move (.tmp 4),none⟩,⟨some 164,.load 27 (.tmp 17),none⟩,⟨some 165,.call ⟨.value (.func 38),#[.tmp 163,.tmp 164],#[22,27]⟩,none⟩,⟨some 162,.move (.tmp 165),none⟩,⟨some 166,.extract (.tmp 162) 0,none⟩,⟨some 167,.extract (.tmp 162) 1,none⟩,⟨some 22,.assign (.tmp 166),none⟩,⟨some 23,.assign (.tmp 167),none⟩]
instance : Live r_k9_29 := ⟨[4,17]⟩
def r_k9_30 : List SOp := [⟨some 168,.move (.tmp 23),none⟩,⟨some 169,.binOp .eql 32 (.tmp 168) (.const (.int .i64 0)) 32,none⟩,⟨some 170,.move (.tmp 169),none⟩,⟨some 171,.move (.tmp 22),some ((some 170),true)⟩,⟨some 172,.call ⟨.builtin .len,#[.tmp 171],#[22]⟩,some ((some 170),true)⟩,⟨some 173,.binOp .eql 3 (.tmp 172) (.const (.int .i64 0)) 3,some ((some 170),true)⟩,⟨some 174,.pick (.tmp 170) (.tmp 173) (.const (.bool false)),none⟩,⟨some 2,.assign (.tmp 174),none⟩]
instance : Live r_k9_30 := ⟨[22,23]⟩
def t_k9_l1 : SC :=
  (.seq (.seq (.ops false r_k9_20) (.cond (.tmp 122) .skip (.exit 0))) (.seq (.block 1 (.seq (.ops false r_k9_21) (.seq (.ops true r_k9_22) (.cond (.tmp 147) (.seq (.ops false r_k9_23) .ret) .skip)))) (.ops false r_k9_24)))
def t_k9_l2 : SC :=
  (.seq (.seq (.ops false r_k9_26) (.cond (.tmp 151) .skip (.exit 2))) (.seq (.block 3 (.ops true r_k9_27)) (.ops false r_k9_28)))
def t_k9 : SC :=
  (.seq (.ops false r_k9_1) (.seq (.seq (.ops false r_k9_2) (.cond (.tmp 25) (.seq (.ops false r_k9_3) .ret) .skip)) (.seq (.ops false r_k9_4) (.seq (.ops false r_k9_5) (.seq (.seq (.ops false r_k9_6) (.cond (.tmp 46) (.seq (.ops false r_k9_7) .ret) .skip)) (.seq (.seq (.ops false r_k9_8) (.cond (.tmp 60) (.seq (.ops false r_k9_9) .ret) .skip)) (.seq (.ops false r_k9_10) (.seq (.ops false r_k9_11) (.seq (.ops false r_k9_12) (.seq (.ops false r_k9_13) (.seq (.seq (.ops false r_k9_14) (.cond (.tmp 106) (.seq (.ops false r_k9_15) .ret) .skip)) (.seq (.ops false r_k9_16) (.seq (.ops false r_k9_17) (.seq (.ops false r_k9_18) (.seq (.seq (.ops false r_k9_19) (.block 0 (.loop t_k9_l1))) (.seq (.seq (.ops false r_k9_25) (.block 2 (.loop t_k9_l2))) (.seq (.ops false r_k9_29) (.seq (.ops false r_k9_30) .ret))))))))))))))))))
theorem it_k9 : FnIs Tryz.prog 9 175 [.tmp 2] t_k9 := ⟨Tryz.f9, _, Tryz.func9, rfl, rfl, rfl, rfl, by kernel_rfl⟩

theorem ev_k9 (x : CasK) (hw : wtKs x.r + wtKs x.q + x.a.length + x.b.length + wt x.p + wt x.o ≤ 1100000) : Ev (En Tryz.prog rfl).P 9 [encX x] (.ret (.bool true)) := by
  refine Ev.of_body it_k9 (by simp) (Run.start ?_)
  unfold t_k9 encX
  have hcs : stbs [AVal.sl 3 (encKs x.r), .sl 3 (encKs x.q), .sl 4 (encEs x.a), .sl 4 (encEs x.b), .sl 1 (encIs x.p.vec), .sl 3 (encSs x.p.cloud), .sl 1 (encIs x.o.vec), .sl 3 (encSs x.o.cloud)] = true := by simp [stbs, AVal.stb, encIs_stb, encSs_stb, encKs_stb, encEs_stb]
  have hS := stbK
  have hlr := wtKs_len x.r
  have hlq := wtKs_len x.q
  have hwr : ∀ r ∈ x.r, wt r.past ≤ 1100000 := fun r hr => by have := wtK_le hr; unfold wtK at this; omega
  have hwq : ∀ r ∈ x.q, wt r.past ≤ 1100000 := fun r hr => by have := wtK_le hr; unfold wtK at this; omega
  have k1 := ev_k41 x.p (by omega)
  have c1 := ev_k36 x.r x.q (by omega) (by omega) (fun r hr => by have := hwr r hr; omega) (fun r hr => by have := hwq r hr; omega)
  have c2 := ev_ref07CheckW x.r (by omega) (fun r hr => by have := hwr r hr; omega)
  have c3 := ev_ref07CheckW x.q (by omega) (fun r hr => by have := hwq r hr; omega)
  have hul := unionK_len x.r x.q
  by_cases hfr : formK x.r = true
  case' neg =>
    rw [if_neg hfr] at c2
    rw [if_neg (fun h => hfr h.1)] at c1
    (focus (have hF := @hcs; (repeat' (first | refine go1 (k:=?_) | with_reducible refine Ny.of ?_ ?_ | (refine Hyp.of ?_; intro hc; (try simp only [hc]); (try simp only [Bh] at hc)))); all_goals clear hF))
    refine stCall [] (he := ev_k11) (k:=?_)
    (focus (have hF := @hcs; (repeat' (first | refine go1 (k:=?_) | with_reducible refine Ny.of ?_ ?_ | (refine Hyp.of ?_; intro hc; (try simp only [hc]); (try simp only [Bh] at hc)))); all_goals clear hF))
    refine stCall [encP x.p] (he := k1) (k:=?_)
    unfold encP
    (focus (have hF := @hcs; (repeat' (first | refine go1 (k:=?_) | with_reducible refine Ny.of ?_ ?_ | (refine Hyp.of ?_; intro hc; (try simp only [hc]); (try simp only [Bh] at hc)))); all_goals clear hF))
    refine stCall [.sl 3 (encKs x.r), .sl 3 (encKs x.q)] (he := c1) (k:=?_)
    (focus (have hF := @hcs; (repeat' (first | refine go1 (k:=?_) | with_reducible refine Ny.of ?_ ?_ | (refine Hyp.of ?_; intro hc; (try simp only [hc]); (try simp only [Bh] at hc)))); all_goals clear hF))
    refine stCall [.sl 3 (encKs x.r)] (he := c2) (k:=?_)
    (focus (have hF := @hcs; (repeat' (first | refine go1 (k:=?_) | with_reducible refine Ny.of ?_ ?_ | (refine Hyp.of ?_; intro hc; (try simp only [hc]); (try simp only [Bh] at hc)))); all_goals clear hF))
    exact Fin.tmp' rfl rfl
  case' pos =>
    rw [if_pos hfr] at c2
    by_cases hfq : formK x.q = true
    case' neg =>
      rw [if_neg hfq] at c3
      rw [if_neg (fun h => hfq h.2)] at c1
      (focus (have hF := @hcs; (repeat' (first | refine go1 (k:=?_) | with_reducible refine Ny.of ?_ ?_ | (refine Hyp.of ?_; intro hc; (try simp only [hc]); (try simp only [Bh] at hc)))); all_goals clear hF))
      refine stCall [] (he := ev_k11) (k:=?_)
      (focus (have hF := @hcs; (repeat' (first | refine go1 (k:=?_) | with_reducible refine Ny.of ?_ ?_ | (refine Hyp.of ?_; intro hc; (try simp only [hc]); (try simp only [Bh] at hc)))); all_goals clear hF))
      refine stCall [encP x.p] (he := k1) (k:=?_)
      unfold encP
      (focus (have hF := @hcs; (repeat' (first | refine go1 (k:=?_) | with_reducible refine Ny.of ?_ ?_ | (refine Hyp.of ?_; intro hc; (try simp only [hc]); (try simp only [Bh] at hc)))); all_goals clear hF))
      refine stCall [.sl 3 (encKs x.r), .sl 3 (encKs x.q)] (he := c1) (k:=?_)
      (focus (have hF := @hcs; (repeat' (first | refine go1 (k:=?_) | with_reducible refine Ny.of ?_ ?_ | (refine Hyp.of ?_; intro hc; (try simp only [hc]); (try simp only [Bh] at hc)))); all_goals clear hF))
      refine stCall [.sl 3 (encKs x.r)] (he := c2) (k:=?_)
      (focus (have hF := @hcs; (repeat' (first | refine go1 (k:=?_) | with_reducible refine Ny.of ?_ ?_ | (refine Hyp.of ?_; intro hc; (try simp only [hc]); (try simp only [Bh] at hc)))); all_goals clear hF))
      refine stCall [.sl 3 (encKs x.q)] (he := c3) (k:=?_)
      (focus (have hF := @hcs; (repeat' (first | refine go1 (k:=?_) | with_reducible refine Ny.of ?_ ?_ | (refine Hyp.of ?_; intro hc; (try simp only [hc]); (try simp only [Bh] at hc)))); all_goals clear hF))
      exact Fin.tmp' rfl rfl
    case' pos =>
      rw [if_pos hfq] at c3
      rw [if_pos ⟨hfr, hfq⟩] at c1
      have hFr := formK_iff.1 hfr
      have hFq := formK_iff.1 hfq
      have hU : unionK x.r x.q = ordR (x.r ++ x.q) := if_pos ⟨hfr, hfq⟩
      have hFU := formK_union hFr hFq
      have hwU : ∀ r ∈ ordR (x.r ++ x.q), wt r.past ≤ 1100000 := fun r hr => (List.mem_append.1 (ordR_sub hr)).elim (hwr r) (hwq r)
      have hsU : wtKs (ordR (x.r ++ x.q)) ≤ 1100000 := by have := wtKs_ord (x.r ++ x.q); rw [wtKs_app] at this; omega
      have hwait := waits_union hFr hFq (normP x.p)
      rw [hU] at c1 hul
      have hnw := normP_wt x.p
      have hnn : isNormP (normP x.p) = true := isNormP_iff.2 (canP_norm x.p)
      generalize normP x.p = p at *
      have hfU := formK_true hFU
      have c4 := ev_ref07CheckW (ordR (x.r ++ x.q)) (by omega) (fun r hr => by have := hwU r hr; omega)
      have c5 := ev_keepCheckW (ordR (x.r ++ x.q)) (by omega) (fun r hr => by have := hwU r hr; omega)
      rw [if_pos hfU] at c4 c5
      have c6 := ev_k38 (ordR (x.r ++ x.q)) p (by omega) (fun r hr => by have := hwU r hr; omega) (by omega)
      have c7 := ev_k38 x.r p (by omega) (fun r hr => by have := hwr r hr; omega) (by omega)
      have c8 := ev_k38 x.q p (by omega) (fun r hr => by have := hwq r hr; omega) (by omega)
      have w1 : waitsK (ordR (x.r ++ x.q)) p = waitsL (ordR (x.r ++ x.q)) p := if_pos ⟨hfU, hnn⟩
      have w2 : waitsK x.r p = waitsL x.r p := if_pos ⟨hfr, hnn⟩
      have w3 : waitsK x.q p = waitsL x.q p := if_pos ⟨hfq, hnn⟩
      rw [w1, if_pos ⟨hfU, hnn⟩] at c6
      rw [w2, if_pos ⟨hfr, hnn⟩] at c7
      rw [w3, if_pos ⟨hfq, hnn⟩] at c8
      have l2 := waitsL_len x.r p
      have l3 := waitsL_len x.q p
      have hFb : FormK (waitsL x.r p) := formK_filter _ hFr
      have hFc : FormK (waitsL x.q p) := formK_filter _ hFq
      have c9 := ev_k36 (waitsL x.r p) (waitsL x.q p) (by omega) (by omega) (fun r hr => by have := hwr r (List.mem_filter.1 hr).1; omega) (fun r hr => by have := hwq r (List.mem_filter.1 hr).1; omega)
      have w4 : unionK (waitsL x.r p) (waitsL x.q p) = waitsL (ordR (x.r ++ x.q)) p := by rw [← hwait]; exact if_pos ⟨formK_true hFb, formK_true hFc⟩
      rw [w4, if_pos ⟨formK_true hFb, formK_true hFc⟩] at c9
      clear w1 w2 w3 w4 hwait hU
      generalize waitsL x.r p = b at *
      generalize waitsL x.q p = c at *
      generalize ordR (x.r ++ x.q) = u at *
      have hFa : FormK (waitsL u p) := formK_filter _ hFU
      have la := waitsL_len u p
      have hwa : ∀ r ∈ waitsL u p, wt r.past ≤ 1100000 := fun r hr => hwU r (List.mem_filter.1 hr).1
      have d1 := ev_k16 (waitsL u p) (by omega) (fun r hr => by have := hwa r hr; omega)
      have k2 := ev_k42 [p, x.o] (by simp) (by simp; omega)
      have hmw := joinP_wt [p, x.o]
      have hin := within_join1 p x.o
      have hmc := canP_join [p, x.o]
      generalize joinP [p, x.o] = more at *
      have hmw : wt more ≤ 1200000 := by simp at hmw; omega
      have d2 := ev_k38 u more (by omega) (fun r hr => by have := hwU r hr; omega) (by omega)
      have w5 : waitsK u more = waitsL u more := if_pos ⟨hfU, isNormP_iff.2 hmc⟩
      rw [w5, if_pos ⟨hfU, isNormP_iff.2 hmc⟩] at d2
      have hmore := waits_more (l := u) hin
      have hlf := waitsL_len u more
      clear w5
      generalize waitsL u p = a at *
      have hFf : ∀ r ∈ waitsL u more, FormK [r] := fun r hr => formK_of (by simp [SrtR]) (fun z hz => by rw [List.mem_singleton.1 hz]; exact formK_err hFU r (List.mem_filter.1 hr).1)
      generalize waitsL u more = f at *
      have eU := encKs_len u
      have eA := encKs_len a
      have eF := encKs_len f
      (focus (have hF := @hcs; (repeat' (first | refine go1 (k:=?_) | with_reducible refine Ny.of ?_ ?_ | (refine Hyp.of ?_; intro hc; (try simp only [hc]); (try simp only [Bh] at hc)))); all_goals clear hF))
      refine stCall [] (he := ev_k11) (k:=?_)
      (focus (have hF := @hcs; (repeat' (first | refine go1 (k:=?_) | with_reducible refine Ny.of ?_ ?_ | (refine Hyp.of ?_; intro hc; (try simp only [hc]); (try simp only [Bh] at hc)))); all_goals clear hF))
      refine stCall [encP x.p] (he := k1) (k:=?_)
      unfold encP
      (focus (have hF := @hcs; (repeat' (first | refine go1 (k:=?_) | with_reducible refine Ny.of ?_ ?_ | (refine Hyp.of ?_; intro hc; (try simp only [hc]); (try simp only [Bh] at hc)))); all_goals clear hF))
      refine stCall [.sl 3 (encKs x.r), .sl 3 (encKs x.q)] (he := c1) (k:=?_)
      (focus (have hF := @hcs; (repeat' (first | refine go1 (k:=?_) | with_reducible refine Ny.of ?_ ?_ | (refine Hyp.of ?_; intro hc; (try simp only [hc]); (try simp only [Bh] at hc)))); all_goals clear hF))
      refine stCall [.sl 3 (encKs x.r)] (he := c2) (k:=?_)
      (focus (have hF := @hcs; (repeat' (first | refine go1 (k:=?_) | with_reducible refine Ny.of ?_ ?_ | (refine Hyp.of ?_; intro hc; (try simp only [hc]); (try simp only [Bh] at hc)))); all_goals clear hF))
      refine stCall [.sl 3 (encKs x.q)] (he := c3) (k:=?_)
      (focus (have hF := @hcs; (repeat' (first | refine go1 (k:=?_) | with_reducible refine Ny.of ?_ ?_ | (refine Hyp.of ?_; intro hc; (try simp only [hc]); (try simp only [Bh] at hc)))); all_goals clear hF))
      refine stCall [.sl 3 (encKs u)] (he := c4) (k:=?_)
      (focus (have hF := @hcs; (repeat' (first | refine go1 (k:=?_) | with_reducible refine Ny.of ?_ ?_ | (refine Hyp.of ?_; intro hc; (try simp only [hc]); (try simp only [Bh] at hc)))); all_goals clear hF))
      refine stCall [.sl 3 (encKs u)] (he := c5) (k:=?_)
      (focus (have hF := @hcs; (repeat' (first | refine go1 (k:=?_) | with_reducible refine Ny.of ?_ ?_ | (refine Hyp.of ?_; intro hc; (try simp only [hc]); (try simp only [Bh] at hc)))); all_goals clear hF))
      refine stCall [.sl 3 (encKs u), encP p] (he := c6) (k:=?_)
      (focus (have hF := @hcs; (repeat' (first | refine go1 (k:=?_) | with_reducible refine Ny.of ?_ ?_ | (refine Hyp.of ?_; intro hc; (try simp only [hc]); (try simp only [Bh] at hc)))); all_goals clear hF))
      refine stCall [.sl 3 (encKs x.r), encP p] (he := c7) (k:=?_)
      (focus (have hF := @hcs; (repeat' (first | refine go1 (k:=?_) | with_reducible refine Ny.of ?_ ?_ | (refine Hyp.of ?_; intro hc; (try simp only [hc]); (try simp only [Bh] at hc)))); all_goals clear hF))
      refine stCall [.sl 3 (encKs x.q), encP p] (he := c8) (k:=?_)
      (focus (have hF := @hcs; (repeat' (first | refine go1 (k:=?_) | with_reducible refine Ny.of ?_ ?_ | (refine Hyp.of ?_; intro hc; (try simp only [hc]); (try simp only [Bh] at hc)))); all_goals clear hF))
      refine stCall [.sl 3 (encKs b), .sl 3 (encKs c)] (he := c9) (k:=?_)
      (focus (have hF := @hcs; (repeat' (first | refine go1 (k:=?_) | with_reducible refine Ny.of ?_ ?_ | (refine Hyp.of ?_; intro hc; (try simp only [hc]); (try simp only [Bh] at hc)))); all_goals clear hF))
      refine stCall [.sl 3 (encKs a), .sl 3 (encKs a)] (he := d1) (k:=?_)
      (focus (have hF := @hcs; (repeat' (first | refine go1 (k:=?_) | with_reducible refine Ny.of ?_ ?_ | (refine Hyp.of ?_; intro hc; (try simp only [hc]); (try simp only [Bh] at hc)))); all_goals clear hF))
      refine stCall [.sl 2 (encPs [p, x.o])] (he := k2) (k:=?_)
      unfold encP
      (focus (have hF := @hcs; (repeat' (first | refine go1 (k:=?_) | with_reducible refine Ny.of ?_ ?_ | (refine Hyp.of ?_; intro hc; (try simp only [hc]); (try simp only [Bh] at hc)))); all_goals clear hF))
      refine stCall [.sl 3 (encKs u), encP more] (he := d2) (k:=?_)
      (focus (have hF := @hcs; (repeat' (first | refine go1 (k:=?_) | with_reducible refine Ny.of ?_ ?_ | (refine Hyp.of ?_; intro hc; (try simp only [hc]); (try simp only [Bh] at hc)))); all_goals clear hF))
      refine Run.while (σ := Nat) (fun i => ⟨tms [(4, .sl 3 (encKs u)), (6, .sl 3 (encKs a)), (14, .ptr 14 0), (15, .sl 3 (encKs f)), (17, .ptr 17 0), (18, .int .i64 (i : Int))], mms [(14, .cells [.sl 1 (encIs more.vec), .sl 3 (encSs more.cloud)]), (17, .cells [.sl 1 (encIs more.vec), .sl 3 (encSs more.cloud)])]⟩)
        (fun i => i ≤ f.length) (fun i => f.length - i) 0 (have hW := @encKs_stb; stWk) (Nat.zero_le _) ?_
      · intro i hi
        unfold t_k9_l1
        by_cases hlt : i < f.length
        · obtain ⟨r, hr⟩ : ∃ r, f[i]? = some r := ⟨f[i], by simp [hlt]⟩
          have g1 := encKs_get hr
          have hrf := List.mem_of_getElem? hr
          obtain ⟨hra, hrw⟩ := hmore r hrf
          have hwr1 := hwa r hra
          have m1 := ev_k36 a [r] (by omega) (show 1 ≤ 10000000 by omega) (fun z hz => by have := hwa z hz; omega) (fun z hz => by rw [List.mem_singleton.1 hz]; omega)
          have w6 : unionK a [r] = a := by
            unfold unionK
            rw [if_pos ⟨formK_true hFa, formK_true (hFf r hrf)⟩]
            exact union_self hFa hra
          rw [w6, if_pos ⟨formK_true hFa, formK_true (hFf r hrf)⟩] at m1
          have m2 := ev_k43 r.past more (by omega) (by omega)
          rw [hrw] at m2
          have hsl : ((encKs f).take (i + 1)).drop i = encKs [r] := by
            unfold encKs
            rw [← List.map_take, ← List.map_drop]
            congr 1
            have e1 : f.take (i + 1) = f.take i ++ [r] := by rw [List.take_add_one, hr]; rfl
            rw [e1, List.drop_append_of_le_length (by simp; omega), List.drop_of_length_le (by rw [List.length_take]; omega)]
            rfl
          have n1 : ((i : Int) + 1).toNat = i + 1 := by omega
          have n2 : (i : Int).toNat = i := Int.toNat_natCast _
          (focus (have hF := (And.intro (And.intro @hcs (And.intro @eF @g1)) (And.intro @n1 (And.intro @n2 @hsl))); (repeat' (first | refine go1 (k:=?_) | with_reducible refine Ny.of ?_ ?_ | (refine Hyp.of ?_; intro hc; (try simp only [hc]); (try simp only [Bh] at hc)))); all_goals clear hF))
          refine stCall [.sl 3 (encKs a), .sl 3 (encKs [r])] (he := m1) (k:=?_)
          (focus (have hF := (And.intro @hcs (And.intro @eF @g1)); (repeat' (first | refine go1 (k:=?_) | with_reducible refine Ny.of ?_ ?_ | (refine Hyp.of ?_; intro hc; (try simp only [hc]); (try simp only [Bh] at hc)))); all_goals clear hF))
          refine stCall [.sl 3 (encKs a), .sl 3 (encKs a)] (he := d1) (k:=?_)
          (focus (have hF := (And.intro @hcs (And.intro @eF @g1)); (repeat' (first | refine go1 (k:=?_) | with_reducible refine Ny.of ?_ ?_ | (refine Hyp.of ?_; intro hc; (try simp only [hc]); (try simp only [Bh] at hc)))); all_goals clear hF))
          refine stCall [encP r.past, encP more] (he := m2) (k:=?_)
          (focus (have hF := (And.intro @hcs (And.intro @eF @g1)); (repeat' (first | refine go1 (k:=?_) | with_reducible refine Ny.of ?_ ?_ | (refine Hyp.of ?_; intro hc; (try simp only [hc]); (try simp only [Bh] at hc)))); all_goals clear hF))
          (refine Fin.nextW (i + 1) ?_ (have hW := @encKs_stb; stWk); (try dsimp only))
          omega
        · (focus (have hF := (And.intro @hcs @eF); (repeat' (first | refine go1 (k:=?_) | with_reducible refine Ny.of ?_ ?_ | (refine Hyp.of ?_; intro hc; (try simp only [hc]); (try simp only [Bh] at hc)))); all_goals clear hF))
          have hz0 : joins more (u.take 0) = more := rfl
          refine Run.while (σ := Nat) (fun j => ⟨tms [(4, .sl 3 (encKs u)), (17, .ptr 17 0), (21, .int .i64 (j : Int))], mms [(17, .cells [.sl 1 (encIs (joins more (u.take j)).vec), .sl 3 (encSs (joins more (u.take j)).cloud)])]⟩)
            (fun j => j ≤ u.length) (fun j => u.length - j) 0 (have hW := (And.intro @encKs_stb @hz0); stWk) (Nat.zero_le _) ?_
          intro j hj
          unfold t_k9_l2
          have hjw := joins_wt (u.take j) more
          have hjs : wtKs (u.take j) ≤ wtKs u := sum_sub ((List.take_sublist j u).map wtK)
          by_cases hjl : j < u.length
          · obtain ⟨r, hr⟩ : ∃ r, u[j]? = some r := ⟨u[j], by simp [hjl]⟩
            have g1 := encKs_get hr
            have hwr1 := hwU r (List.mem_of_getElem? hr)
            have hst := joins_take (p := more) hr
            generalize joins more (u.take j) = al at *
            have m1 := ev_k42 [al, r.past] (show 2 ≤ 1000000000 by omega) (by simp only [List.map_cons, List.map_nil, List.sum_cons, List.sum_nil]; omega)
            rw [← hst] at m1
            generalize hal2 : joins more (u.take (j + 1)) = al2 at *
            (focus (have hF := (And.intro @hcs (And.intro @eU @g1)); (repeat' (first | refine go1 (k:=?_) | with_reducible refine Ny.of ?_ ?_ | (refine Hyp.of ?_; intro hc; (try simp only [hc]); (try simp only [Bh] at hc)))); all_goals clear hF))
            refine stCall [.sl 2 (encPs [al, r.past])] (he := m1) (k:=?_)
            unfold encP
            (focus (have hF := (And.intro @hcs (And.intro @eU @g1)); (repeat' (first | refine go1 (k:=?_) | with_reducible refine Ny.of ?_ ?_ | (refine Hyp.of ?_; intro hc; (try simp only [hc]); (try simp only [Bh] at hc)))); all_goals clear hF))
            (refine Fin.nextW (j + 1) ?_ (have hW := (And.intro @encKs_stb @hal2); stWk); (try dsimp only))
            omega
          · rw [List.take_of_length_le (show u.length ≤ j by omega)] at hjw ⊢
            have hjc := joins_can u more hmc
            have hji := (joins_in u more).2
            generalize joins more u = al at *
            have m1 := ev_k38 u al (by omega) (fun r hr => by have := hwU r hr; omega) (by omega)
            have w7 : waitsK u al = [] := by
              unfold waitsK
              rw [if_pos ⟨hfU, isNormP_iff.2 hjc⟩]
              exact waits_none hji
            rw [w7, if_pos ⟨hfU, isNormP_iff.2 hjc⟩] at m1
            have e0 : encKs [] = [] := rfl
            (focus (have hF := (And.intro @hcs @eU); (repeat' (first | refine go1 (k:=?_) | with_reducible refine Ny.of ?_ ?_ | (refine Hyp.of ?_; intro hc; (try simp only [hc]); (try simp only [Bh] at hc)))); all_goals clear hF))
            refine stCall [.sl 3 (encKs u), encP al] (he := m1) (k:=?_)
            (focus (have hF := (And.intro @hcs (And.intro @eU @e0)); (repeat' (first | refine go1 (k:=?_) | with_reducible refine Ny.of ?_ ?_ | (refine Hyp.of ?_; intro hc; (try simp only [hc]); (try simp only [Bh] at hc)))); all_goals clear hF))
            exact Fin.tmp' rfl rfl

end Go.Proofs.YtpomanleabaafaaGreat.Avm
/-
  The law KeepWaits holds: for every case of bulk at most 1048576 the call returns true and the case reads behind it as it read before.
-/
namespace Go.Proofs.YtpomanleabaafaaGreat.Avm
open Go.Proofs
theorem lifted_KeepWaits (os : Os) (started : os.Started) (H : Type) (enc : TypeId × Value → H) (F : Stop.Interp) :
    ReturnsInHanded {} Tryz.checked os 9 .any ((Rows.OpenSpec.upto Rows.keepWaitsSpec).pre6 enc Tryz.prog Tryz.f9 Rows.keepWaitsUptoRow.domain false) (((Rows.OpenSpec.upto Rows.keepWaitsSpec).at F).post enc Tryz.prog Tryz.f9 false true false false) := by
  refine returnsInHanded_of_cond (C := Tryz.checked) (s := Rows.OpenSpec.upto Rows.keepWaitsSpec) (k := Rows.uptoSmall) rfl own started (by kernel_rfl) Tryz.func9
    (OpenSpec.witness (enc := enc) (C := Tryz.checked) (s := Rows.OpenSpec.upto Rows.keepWaitsSpec) (k := Rows.uptoSmall) rfl false ⟨#[], #[.agg #[.slice none 0 0, .slice none 0 0, .slice none 0 0, .slice none 0 0, .slice none 0 0, .slice none 0 0, .slice none 0 0, .slice none 0 0]], []⟩ 8 (by kernel_rfl) (by kernel_rfl) (by kernel_rfl)
      (x := ([.agg [.nil, .nil, .nil, .nil, .agg [.nil, .nil], .agg [.nil, .nil]]], [], [])) (by kernel_rfl) rfl (by kernel_rfl)) ?_
  intro W base args ds gs before hval hW _ hk _
  exact contract_of (s := Rows.keepWaitsSpec) Tryz.func9 Tryz.params9 (by kernel_rfl) Tryz.underlying4 Tryz.underlying29 (by kernel_rfl) (by kernel_rfl) (of_decide_eq_true (by kernel_rfl)) rfl (fun _ _ => rfl)
    op_CaseK (fun x _ hx => ev_k9 x (by unfold wtX at hx; omega)) H enc W base args ds gs before hval hW hk
theorem keepWaits_holds : Rows.KeepWaitsUptoSaid :=
  OpenClaim.holds_of_cond 9 Tryz.f9 rfl rfl rfl rfl rfl rfl rfl ⟨rfl, rfl, rfl, rfl, rfl⟩ rfl rfl rfl rfl rfl (by kernel_rfl) Tryz.func9 (by kernel_rfl)
    (of_decide_eq_true (by kernel_rfl)) (by unfold Func.isWrapper; first | (rw [if_pos (by decide +kernel)]; kernel_rfl) | (rw [if_neg (by decide +kernel)]; exact ⟨rfl, rfl⟩))
    (fun os started H enc _ F => lifted_KeepWaits os started H enc F)
#print axioms keepWaits_holds

end Go.Proofs.YtpomanleabaafaaGreat.Avm
