/- Each function of the code computes the Lean function of the same number wherever that has a value; no other conditions. -/
import Derived.Test.YtcmbahhinnojaaaSwb
import Derived.Test.YtcmbahhinnojaaaProg
namespace Go.Sw
open Go Go.Sw
set_option linter.unusedSimpArgs false
set_option linter.unusedVariables false

abbrev t2 : T := (.int .i64)
abbrev t4 : T := .bool
abbrev t5 : T := (.int .u8)
abbrev t7 : T := (.st (.cons t2 (.cons t2 (.cons t4 (.one t5)))))
abbrev t9 : T := .str
abbrev t12 : T := (.int .u64)
abbrev t13 : T := (.st (.cons t9 (.one t12)))
abbrev t21 : T := (.int .i32)
abbrev t55 : T := (.st (.cons t2 (.cons t2 (.cons t2 (.cons t2 (.one t2))))))
abbrev t22 : T := (.sl t55)
abbrev t23 : T := (.st (.cons t2 (.cons t2 (.cons t2 (.cons t2 (.cons t2 (.cons t2 (.cons t22 (.one t2)))))))))
abbrev t25 : T := (.st (.cons t2 (.cons t2 (.one t2))))
abbrev t27 : T := (.st (.cons t25 (.one t25)))
abbrev t28 : T := (.st (.cons t2 (.one t2)))
abbrev t66 : T := (.st (.cons t2 (.cons t25 (.cons t28 (.one t2)))))
abbrev t31 : T := (.sl t66)
abbrev t45 : T := (.sl t28)
abbrev t57 : T := (.sl t2)
abbrev t60 : T := (.st (.cons t25 (.one t31)))
abbrev t94 : T := (.sl t4)
abbrev t130 : T := (.int .u32)
abbrev t96 : T := (.sl t130)
abbrev t97 : T := (.st (.cons t4 (.one t96)))
abbrev t99 : T := (.st (.cons t97 (.one t97)))
abbrev t103 : T := (.st (.cons t99 (.one t99)))
abbrev t106 : T := (.sl t103)
abbrev t118 : T := (.sl t99)
def tyL : List (Option T) := [none, none, some t2, some t2, some t4, some t5, some t5, some t7, some t7, some t9, some t9, some t9, some t12, some t13, some t13, none, none, none, none, none, none, some t21, some t22, some t23, some t23, some t25, some t25, some t27, some t28, none, none, some t31, some t2, none, none, none, none, some t28, some t28, none, none, some t25, none, none, none, some t45, none, none, none, none, none, none, none, none, none, some t55, some t55, some t57, none, none, some t60, some t60, none, none, none, none, some t66, some t66, none, none, none, none, none, none, none, none, none, some t60, some t60, none, none, some t28, some t28, none, none, none, none, none, none, none, none, none, none, some t57, some t94, none, some t96, some t97, some t97, some t99, some t99, none, none, some t103, some t103, none, some t106, none, none, none, none, none, none, none, none, none, none, none, some t118, none, some t12, none, none, none, none, none, none, none, none, none, some t130, none, none, none, none, none, none, none, none, none, none, none, none, none, none, none, none, none, none, none, none, some t5, some t5, none, none, some t21, some t21, none, none, none]
def scL : List Bool := [false, true, false, false, false, false, false, false, false, false, false, false, false, false, false, true, true, true, false, false, false, false, false, false, false, false, false, false, false, true, true, false, false, false, true, true, true, false, false, true, true, false, true, true, true, false, false, true, true, true, true, true, true, true, true, false, false, false, true, true, false, false, true, true, true, true, false, false, false, true, true, true, true, true, true, true, true, false, false, true, true, false, false, true, true, true, true, true, true, true, true, true, true, false, false, true, false, false, false, false, false, true, true, false, false, true, false, true, true, true, true, true, true, true, true, true, true, true, false, true, false, true, true, true, true, true, true, true, true, true, false, false, true, false, true, false, true, true, false, true, true, true, true, true, true, false, false, false, false, false, true, false, false, true, true, false, false, false, false, false]
def elL : List Nat := [0, 0, 0, 0, 0, 0, 0, 0, 0, 0, 0, 0, 0, 0, 0, 0, 0, 0, 0, 0, 0, 0, 56, 0, 0, 0, 0, 0, 0, 0, 0, 67, 0, 0, 0, 0, 0, 0, 0, 0, 0, 0, 0, 0, 0, 38, 0, 0, 0, 0, 0, 0, 0, 0, 0, 0, 0, 2, 0, 0, 0, 0, 0, 0, 0, 0, 0, 0, 0, 0, 0, 0, 0, 0, 0, 0, 0, 0, 0, 0, 0, 0, 0, 0, 0, 0, 0, 0, 0, 0, 0, 0, 0, 3, 4, 0, 130, 0, 0, 0, 0, 0, 0, 0, 0, 0, 104, 0, 0, 0, 0, 0, 0, 0, 0, 0, 0, 0, 100, 0, 0, 0, 0, 0, 0, 0, 0, 0, 0, 0, 0, 0, 0, 0, 0, 0, 0, 0, 0, 0, 0, 0, 0, 0, 0, 0, 0, 0, 0, 0, 0, 0, 0, 0, 0, 0, 0, 0, 0, 0]
def arL : List Bool := [false, false, false, false, false, false, false, false, false, false, false, false, false, false, false, false, false, false, false, false, false, false, false, false, false, false, false, true, true, false, false, false, false, false, false, false, false, false, false, false, false, true, false, false, false, false, false, false, false, false, false, false, false, false, false, false, false, false, false, false, false, false, false, false, false, false, false, false, false, false, false, false, false, false, false, false, false, false, false, false, false, false, false, false, false, false, false, false, false, false, false, false, false, false, false, false, false, false, false, false, false, false, false, false, false, false, false, false, false, false, false, false, false, false, false, false, false, false, false, false, false, false, false, false, false, false, false, false, false, false, false, false, false, false, false, false, false, false, false, false, false, false, false, false, false, false, false, true, false, false, false, false, false, false, false, false, false, false, false, false]
def fnL : List Bool := [false, false, true, true, true, true, true, true, true, true, true, true, true, true, true, true, true, true, true, true, true, true, true, true, true, true, true, true, true, true, true, true, true, true, true, true, true, true, true, true, true, true, true, true, true, true, true, true, true, true, true, true, true, true, true, true, true, true, true, true, true, true, true, true, true, true, true, true, true, true, true, true, true, true, true, true, true, true, true, true, true, true, true, true, true, true, true, true, true, true, true, true, true, true, true, true, true, true, true, true, true, true, true, true, false, false, false, false, false, false, false, false, false, false, false, false, false, false, false, false, false, false, false, false, false, false, false, false, false, false, false, false, false, false, false, false, false, false, false, false, false, false, false, false, false, false, false, false, false, false, false, false, false, false, false, false, false, false, false, false]
def eqL : List Bool := [false, false, false, false, false, false, false, false, false, false, false, false, false, false, false, false, false, false, false, false, false, false, false, false, false, false, true, false, false, false, false, false, false, false, false, false, false, false, true, false, false, false, false, false, false, false, false, false, false, false, false, false, false, false, false, false, false, false, false, false, false, false, false, false, false, false, false, true, false, false, false, false, false, false, false, false, false, false, false, false, false, false, false, false, false, false, false, false, false, false, false, false, false, false, false, false, false, false, false, false, false, false, false, false, false, false, false, false, false, false, false, false, false, false, false, false, false, false, false, false, false, false, false, false, false, false, false, false, false, false, false, false, false, false, false, false, false, false, false, false, false, false, false, false, false, false, false, false, false, false, false, false, false, false, false, false, false, false, false, false]
def X0 : Ctx := ⟨fun n => tyL.getD n none, fun n => scL.getD n false, fun n => elL.getD n 0, fun n => arL.getD n false, fun n => fnL.getD n false, fun n => eqL.getD n false⟩
noncomputable abbrev Pg : Program := Go.Proofs.Try.prog
theorem hX : TyOk Pg X0 := by
  refine TyOk.of 160 (by kernel_rfl) (fun i hi => ⟨?_, ?_, ?_, ?_⟩) (by kernel_rfl)
  · exact getD_out _ () (by have : fnL.length = 160 := rfl; omega)
  · exact getD_out _ () (by have : tyL.length = 160 := rfl; omega)
  · exact getD_out _ () (by have : scL.length = 160 := rfl; omega)
  · exact getD_out _ () (by have : eqL.length = 160 := rfl; omega)

/-! ## f18 -/

noncomputable def c_18 : Code := body0 Go.Proofs.Try.f18

def fin18 (r : (Int × Int × Int × Int × Int × Int × (List (Int × Int × Int × Int × Int)) × Int)) : Ex → St → Prop := endK X0 [.cell 0 24] [24] (.d t23 r)

def F18  : Option ((Int × Int × Int × Int × Int × Int × (List (Int × Int × Int × Int × Int)) × Int)) :=
  some ((0 : Int), (0 : Int), (40000 : Int), (30000 : Int), (5000 : Int), (0 : Int), ([((10000 : Int), (0 : Int), (20000 : Int), (5000 : Int), (8000 : Int))] : List (Int × Int × Int × Int × Int)), (20000 : Int))

theorem c18  {r : (Int × Int × Int × Int × Int × Int × (List (Int × Int × Int × Int × Int)) × Int)} (h : F18  = some r) : CallPure Pg 18 [] (.d t23 r) := by
  refine callPureN hX c_18 4 [.cell 0 24] [24] Go.Proofs.Try.func18 (by kernel_rfl) (by kernel_rfl) (by kernel_rfl) (Nat.le_of_ble_eq_true rfl) rfl rfl ?_
  show Run Pg 4 c_18 ⟨[], []⟩ (fin18 r)
  unfold F18 at h
  refine Run.regN hX [] 100 [0] [100] ⟨[(0, (.ptr 100 0))], [(100, (.box (.vcons (.d t23 ((0 : Int), (0 : Int), (0 : Int), (0 : Int), (0 : Int), (0 : Int), ([] : List (Int × Int × Int × Int × Int)), (0 : Int))) .vnil)))]⟩ [] (by kernel_rfl) (by kernel_rfl) trivial ?_
  refine Run.regN hX [] 200 [0] [100] ⟨[(0, (.ptr 100 0))], [(100, (.box (.vcons (.d t23 ((0 : Int), (0 : Int), (40000 : Int), (30000 : Int), (5000 : Int), (0 : Int), ([((10000 : Int), (0 : Int), (20000 : Int), (5000 : Int), (8000 : Int))] : List (Int × Int × Int × Int × Int)), (20000 : Int))) .vnil)))]⟩ [] (by kernel_rfl) (by kernel_rfl) trivial ?_
  refine Run.retN (by kernel_rfl) ?_
  replace h := Option.some.inj h
  subst h
  exact ⟨[(.d t23 ((0 : Int), (0 : Int), (40000 : Int), (30000 : Int), (5000 : Int), (0 : Int), ([((10000 : Int), (0 : Int), (20000 : Int), (5000 : Int), (8000 : Int))] : List (Int × Int × Int × Int × Int)), (20000 : Int)))], by kernel_rfl, by kernel_rfl⟩

/-! ## f19 -/

noncomputable def c_19 : Code := body0 Go.Proofs.Try.f19

def fin19 (r : (List (Int × Int × Int × Int × Int))) : Ex → St → Prop := endK X0 [.tmp 6] [22] (.d t22 r)

def f19_c1_post (x16 : Int) (x17 : Int) (x18 : List (Int × Int × Int × Int × Int)) (x19 : Int) (x20 : Int) (x21 : Bool) (x22 : Int × Int × Int × Int × Int) (x23 : List (Int × Int × Int × Int × Int)) : ((List (Int × Int × Int × Int × Int))) → Ex → St → Prop
  | o, x, s => x = .nrm ∧ s = ⟨[(1, (.d t2 x16)), (2, (.d t2 x17)), (7, (.vec 90007 t55)), (11, (.d t22 x18)), (12, (.d t2 x19)), (13, (.d t2 x20))], [(90007, (.vec 56 t55 o))]⟩

def f19_c1 (x17 : Int) (x21 : Bool) (x22 : Int × Int × Int × Int × Int) (x23 : List (Int × Int × Int × Int × Int)) : Option ((List (Int × Int × Int × Int × Int))) :=
  (bif x21 then
    gd (List.length (x23 ++ ([((wrapI .i64 (x22.1 - x17)), (wrapI .i64 (x22.2.1 - x17)), (wrapI .i64 (x22.2.2.1 + x17)), (wrapI .i64 (x22.2.2.2.1 + x17)), x22.2.2.2.2)] : List (Int × Int × Int × Int × Int))) ≤ 1073741824) <|
    some (x23 ++ ([((wrapI .i64 (x22.1 - x17)), (wrapI .i64 (x22.2.1 - x17)), (wrapI .i64 (x22.2.2.1 + x17)), (wrapI .i64 (x22.2.2.2.1 + x17)), x22.2.2.2.2)] : List (Int × Int × Int × Int × Int)))
  else
    some x23)

theorem f19_c1_ok (x16 : Int) (x17 : Int) (x18 : List (Int × Int × Int × Int × Int)) (x19 : Int) (x20 : Int) (x21 : Bool) (x22 : Int × Int × Int × Int × Int) (x23 : List (Int × Int × Int × Int × Int)) {out : ((List (Int × Int × Int × Int × Int)))} (h : f19_c1 x17 x21 x22 x23 = some out) : Run Pg 46 (sq2 (sq2 (bk1 (sq1 (sq2 (sq2 (lp1 (bk1 (sq2 (sq1 (sq2 (sq2 c_19)))))))))))) ⟨[(1, (.d t2 x16)), (2, (.d t2 x17)), (7, (.vec 90007 t55)), (9, (.ptr 502 0)), (11, (.d t22 x18)), (12, (.d t2 x19)), (13, (.d t2 x20)), (21, (.d t4 x21))], [(502, (.box (.vcons (.d t55 x22) .vnil))), (90007, (.vec 56 t55 x23))]⟩ (f19_c1_post x16 x17 x18 x19 x20 x21 x22 x23 out) := by
  unfold f19_c1 at h
  refine Run.condN x21 (by kernel_rfl) (fun hb => ?_) (fun hb => ?_)
  · replace h := bif_t h hb
    obtain ⟨g_0, h⟩ := gd_elim h
    refine Run.regE hX [] 700 [1, 2, 7, 11, 12, 13] [90007] ⟨[(1, (.d t2 x16)), (2, (.d t2 x17)), (7, (.vec 90007 t55)), (11, (.d t22 x18)), (12, (.d t2 x19)), (13, (.d t2 x20))], [(90007, (.vec 56 t55 (x23 ++ ([((wrapI .i64 (x22.1 - x17)), (wrapI .i64 (x22.2.1 - x17)), (wrapI .i64 (x22.2.2.1 + x17)), (wrapI .i64 (x22.2.2.2.1 + x17)), x22.2.2.2.2)] : List (Int × Int × Int × Int × Int)))))]⟩ [(List.length (x23 ++ ([((wrapI .i64 (x22.1 - x17)), (wrapI .i64 (x22.2.1 - x17)), (wrapI .i64 (x22.2.2.1 + x17)), (wrapI .i64 (x22.2.2.2.1 + x17)), x22.2.2.2.2)] : List (Int × Int × Int × Int × Int))) ≤ 1073741824)] (by kernel_rfl) ⟨g_0, trivial⟩ ?_
    replace h := Option.some.inj h
    subst h
    exact ⟨rfl, by kernel_rfl⟩
  · replace h := bif_f h hb
    refine Run.keep (s' := ⟨[(1, (.d t2 x16)), (2, (.d t2 x17)), (7, (.vec 90007 t55)), (11, (.d t22 x18)), (12, (.d t2 x19)), (13, (.d t2 x20))], [(90007, (.vec 56 t55 x23))]⟩) [1, 2, 7, 11, 12, 13] [90007] (by kernel_rfl) ?_
    refine Run.skipN (by kernel_rfl) ?_
    replace h := Option.some.inj h
    subst h
    exact ⟨rfl, by kernel_rfl⟩

def f19_l0_post (x1 : Int) (x2 : Int) (x3 : List (Int × Int × Int × Int × Int)) (x4 : Int) : ((List (Int × Int × Int × Int × Int))) → Ex → St → Prop
  | o, x, s => x = .out 0 ∧ s = ⟨[(7, (.vec 90007 t55))], [(90007, (.vec 56 t55 o))]⟩

def f19_l0_b (x1 : Int) (x2 : Int) (x3 : List (Int × Int × Int × Int × Int)) (x4 : Int) (again : Int × (List (Int × Int × Int × Int × Int)) → Option ((List (Int × Int × Int × Int × Int)))) : Int × (List (Int × Int × Int × Int × Int)) → Option ((List (Int × Int × Int × Int × Int)))
  | (x5, x6) =>
    (bif (decide (x5 < x4)) then
      gd (0 ≤ x5) <|
      gd (x5 < ((List.length x3 : Nat) : Int)) <|
      ((f19_c1 x2 (decide (x1 < (wrapI .i64 ((List.getD x3 (toN x5) ((0 : Int), (0 : Int), (0 : Int), (0 : Int), (0 : Int))).2.2.2.2 + (1000 : Int))))) (List.getD x3 (toN x5) ((0 : Int), (0 : Int), (0 : Int), (0 : Int), (0 : Int))) x6).bind fun o24 =>
        again ((wrapI .i64 (x5 + (1 : Int))), o24))
    else
      some x6)

def f19_l0 (x1 : Int) (x2 : Int) (x3 : List (Int × Int × Int × Int × Int)) (x4 : Int) : Nat → Int × (List (Int × Int × Int × Int × Int)) → Option ((List (Int × Int × Int × Int × Int))) := loopF (f19_l0_b x1 x2 x3 x4)

theorem f19_l0_ok (x1 : Int) (x2 : Int) (x3 : List (Int × Int × Int × Int × Int)) (x4 : Int) (k : Nat) (x5 : Int) (x6 : List (Int × Int × Int × Int × Int)) {out : ((List (Int × Int × Int × Int × Int)))} (h : f19_l0 x1 x2 x3 x4 k (x5, x6) = some out) : Run Pg 46 (bk1 (sq2 (sq1 (sq2 (sq2 c_19))))) ⟨[(1, (.d t2 x1)), (2, (.d t2 x2)), (7, (.vec 90007 t55)), (11, (.d t22 x3)), (12, (.d t2 x4)), (13, (.d t2 x5))], [(90007, (.vec 56 t55 x6))]⟩ (f19_l0_post x1 x2 x3 x4 out) := by
  refine Run.loopN (by kernel_rfl) (fun m s => ∃ x5 x6, s = ⟨[(1, (.d t2 x1)), (2, (.d t2 x2)), (7, (.vec 90007 t55)), (11, (.d t22 x3)), (12, (.d t2 x4)), (13, (.d t2 x5))], [(90007, (.vec 56 t55 x6))]⟩ ∧ f19_l0 x1 x2 x3 x4 m (x5, x6) = some out) ?_ k ⟨x5, x6,  rfl, h⟩
  rintro m s ⟨x5, x6,  rfl, h⟩
  cases m with
  | zero => cases h
  | succ m =>
  replace h : f19_l0_b x1 x2 x3 x4 (f19_l0 x1 x2 x3 x4 m) (x5, x6) = some out := h
  unfold f19_l0_b at h
  refine Run.regN hX [] 400 [1, 2, 7, 11, 12, 13, 14] [90007] ⟨[(1, (.d t2 x1)), (2, (.d t2 x2)), (7, (.vec 90007 t55)), (11, (.d t22 x3)), (12, (.d t2 x4)), (13, (.d t2 x5)), (14, (.d t4 (decide (x5 < x4))))], [(90007, (.vec 56 t55 x6))]⟩ [] (by kernel_rfl) (by kernel_rfl) trivial ?_
  refine Run.seqN (by kernel_rfl) ?_
  refine Run.condN (decide (x5 < x4)) (by kernel_rfl) (fun hb => ?_) (fun hb => ?_)
  · replace h := bif_t h hb
    refine Run.skipN (by kernel_rfl) ?_
    show Run Pg 46 _ _ _
    refine Run.seqN (by kernel_rfl) ?_
    refine Run.blockN 1 (by kernel_rfl) ?_
    obtain ⟨g_0, h⟩ := gd_elim h
    obtain ⟨g_1, h⟩ := gd_elim h
    refine Run.regN hX [] 500 [1, 2, 7, 9, 11, 12, 13] [502, 90007] ⟨[(1, (.d t2 x1)), (2, (.d t2 x2)), (7, (.vec 90007 t55)), (9, (.ptr 502 0)), (11, (.d t22 x3)), (12, (.d t2 x4)), (13, (.d t2 x5))], [(502, (.box (.vcons (.d t55 (List.getD x3 (toN x5) ((0 : Int), (0 : Int), (0 : Int), (0 : Int), (0 : Int)))) .vnil))), (90007, (.vec 56 t55 x6))]⟩ [(0 ≤ x5), (x5 < ((List.length x3 : Nat) : Int))] (by kernel_rfl) (by kernel_rfl) ⟨g_0, g_1, trivial⟩ ?_
    refine Run.regN hX [] 600 [1, 2, 7, 9, 11, 12, 13, 21] [502, 90007] ⟨[(1, (.d t2 x1)), (2, (.d t2 x2)), (7, (.vec 90007 t55)), (9, (.ptr 502 0)), (11, (.d t22 x3)), (12, (.d t2 x4)), (13, (.d t2 x5)), (21, (.d t4 (decide (x1 < (wrapI .i64 ((List.getD x3 (toN x5) ((0 : Int), (0 : Int), (0 : Int), (0 : Int), (0 : Int))).2.2.2.2 + (1000 : Int)))))))], [(502, (.box (.vcons (.d t55 (List.getD x3 (toN x5) ((0 : Int), (0 : Int), (0 : Int), (0 : Int), (0 : Int)))) .vnil))), (90007, (.vec 56 t55 x6))]⟩ [] (by kernel_rfl) (by kernel_rfl) trivial ?_
    obtain ⟨o24, h_o24, h⟩ := bnd_elim h
    refine Run.mono (f19_c1_ok x1 x2 x3 x4 x5 (decide (x1 < (wrapI .i64 ((List.getD x3 (toN x5) ((0 : Int), (0 : Int), (0 : Int), (0 : Int), (0 : Int))).2.2.2.2 + (1000 : Int))))) (List.getD x3 (toN x5) ((0 : Int), (0 : Int), (0 : Int), (0 : Int), (0 : Int))) x6 h_o24) ?_
    rintro x s ⟨hx, hs⟩
    subst hx
    subst hs
    show Run Pg 46 _ _ _
    refine Run.regE hX [] 800 [1, 2, 7, 11, 12, 13] [90007] ⟨[(1, (.d t2 x1)), (2, (.d t2 x2)), (7, (.vec 90007 t55)), (11, (.d t22 x3)), (12, (.d t2 x4)), (13, (.d t2 (wrapI .i64 (x5 + (1 : Int)))))], [(90007, (.vec 56 t55 o24))]⟩ [] (by kernel_rfl) trivial ?_
    exact ⟨m, Nat.lt_succ_self m, _, _, rfl, h⟩
  · replace h := bif_f h hb
    refine Run.keep (s' := ⟨[(7, (.vec 90007 t55))], [(90007, (.vec 56 t55 x6))]⟩) [7] [90007] (by kernel_rfl) ?_
    refine Run.exitN 0 (by kernel_rfl) ?_
    replace h := Option.some.inj h
    subst h
    exact ⟨rfl, by kernel_rfl⟩

def F19 (a0 : Int × Int × Int × Int × Int × Int × (List (Int × Int × Int × Int × Int)) × Int) (a1 : Int) (a2 : Int) : Option ((List (Int × Int × Int × Int × Int))) :=
  ((f19_l0 a1 a2 a0.2.2.2.2.2.2.1 (ofN (List.length a0.2.2.2.2.2.2.1)) (2 + List.length a0.2.2.2.2.2.2.1 + List.length ([] : List (Int × Int × Int × Int × Int))) ((0 : Int), ([] : List (Int × Int × Int × Int × Int)))).bind fun o25 =>
    some o25)

theorem c19 {a0 : Int × Int × Int × Int × Int × Int × (List (Int × Int × Int × Int × Int)) × Int} {a1 : Int} {a2 : Int} {r : (List (Int × Int × Int × Int × Int))} (h : F19 a0 a1 a2 = some r) : CallPure Pg 19 [(.d t23 a0), (.d t2 a1), (.d t2 a2)] (.d t22 r) := by
  refine callPureN hX c_19 46 [.tmp 6] [22] Go.Proofs.Try.func19 (by kernel_rfl) (by kernel_rfl) (by kernel_rfl) (Nat.le_of_ble_eq_true rfl) rfl rfl ?_
  show Run Pg 46 c_19 ⟨[(0, (.d t23 a0)), (1, (.d t2 a1)), (2, (.d t2 a2))], []⟩ (fin19 r)
  unfold F19 at h
  refine Run.regN hX [] 100 [1, 2, 3] [100] ⟨[(1, (.d t2 a1)), (2, (.d t2 a2)), (3, (.ptr 100 0))], [(100, (.box (.vcons (.d t23 a0) .vnil)))]⟩ [] (by kernel_rfl) (by kernel_rfl) trivial ?_
  refine Run.regN hX [] 200 [1, 2, 3, 7] [100] ⟨[(1, (.d t2 a1)), (2, (.d t2 a2)), (3, (.ptr 100 0)), (7, .nil)], [(100, (.box (.vcons (.d t23 a0) .vnil)))]⟩ [] (by kernel_rfl) (by kernel_rfl) trivial ?_
  refine Run.seqN (by kernel_rfl) ?_
  refine Run.regN hX [] 300 [1, 2, 7, 11, 12, 13] [] ⟨[(1, (.d t2 a1)), (2, (.d t2 a2)), (7, .nil), (11, (.d t22 a0.2.2.2.2.2.2.1)), (12, (.d t2 (ofN (List.length a0.2.2.2.2.2.2.1)))), (13, (.d t2 (0 : Int)))], []⟩ [] (by kernel_rfl) (by kernel_rfl) trivial ?_
  refine Run.blockN 0 (by kernel_rfl) ?_
  refine Run.name (s' := ⟨[(7, (.vec 90007 t55)), (1, (.d t2 a1)), (2, (.d t2 a2)), (7, .nil), (11, (.d t22 a0.2.2.2.2.2.2.1)), (12, (.d t2 (ofN (List.length a0.2.2.2.2.2.2.1)))), (13, (.d t2 (0 : Int)))], [(90007, (.vec 56 t55 []))]⟩) 7 90007 56 t55 (by kernel_rfl) ?_
  refine Run.keep (s' := ⟨[(1, (.d t2 a1)), (2, (.d t2 a2)), (7, (.vec 90007 t55)), (11, (.d t22 a0.2.2.2.2.2.2.1)), (12, (.d t2 (ofN (List.length a0.2.2.2.2.2.2.1)))), (13, (.d t2 (0 : Int)))], [(90007, (.vec 56 t55 ([] : List (Int × Int × Int × Int × Int))))]⟩) [1, 2, 7, 11, 12, 13] [90007] (by kernel_rfl) ?_
  obtain ⟨o25, h_o25, h⟩ := bnd_elim h
  refine Run.mono (f19_l0_ok a1 a2 a0.2.2.2.2.2.2.1 (ofN (List.length a0.2.2.2.2.2.2.1)) _ (0 : Int) ([] : List (Int × Int × Int × Int × Int)) h_o25) ?_
  rintro x s ⟨hx, hs⟩
  subst hx
  subst hs
  show Run Pg 46 _ _ _
  refine Run.regN hX [] 900 [6] [90007] ⟨[(6, (.vec 90007 t55))], [(90007, (.vec 56 t55 o25))]⟩ [] (by kernel_rfl) (by kernel_rfl) trivial ?_
  refine Run.freeze (s' := ⟨[(6, (.d t22 o25))], []⟩) 90007 (by kernel_rfl) ?_
  refine Run.retN (by kernel_rfl) ?_
  replace h := Option.some.inj h
  subst h
  exact ⟨[(.d t22 o25)], by kernel_rfl, by kernel_rfl⟩

/-! ## f10 -/

noncomputable def c_10 : Code := body0 Go.Proofs.Try.f10

def fin10 (r : (Int × Int)) : Ex → St → Prop := endK X0 [.cell 4 38] [38] (.d t28 r)

def F10 (a0 : Int) (a1 : Int) : Option ((Int × Int)) :=
  some (a0, a1)

theorem c10 {a0 : Int} {a1 : Int} {r : (Int × Int)} (h : F10 a0 a1 = some r) : CallPure Pg 10 [(.d t2 a0), (.d t2 a1)] (.d t28 r) := by
  refine callPureN hX c_10 8 [.cell 4 38] [38] Go.Proofs.Try.func10 (by kernel_rfl) (by kernel_rfl) (by kernel_rfl) (Nat.le_of_ble_eq_true rfl) rfl rfl ?_
  show Run Pg 8 c_10 ⟨[(0, (.d t2 a0)), (1, (.d t2 a1))], []⟩ (fin10 r)
  unfold F10 at h
  refine Run.regN hX [] 100 [0, 1, 4] [100] ⟨[(0, (.d t2 a0)), (1, (.d t2 a1)), (4, (.ptr 100 0))], [(100, (.box (.vcons (.d t28 ((0 : Int), (0 : Int))) .vnil)))]⟩ [] (by kernel_rfl) (by kernel_rfl) trivial ?_
  refine Run.regN hX [] 200 [4] [100] ⟨[(4, (.ptr 100 0))], [(100, (.box (.vcons (.d t28 (a0, a1)) .vnil)))]⟩ [] (by kernel_rfl) (by kernel_rfl) trivial ?_
  refine Run.retN (by kernel_rfl) ?_
  replace h := Option.some.inj h
  subst h
  exact ⟨[(.d t28 (a0, a1))], by kernel_rfl, by kernel_rfl⟩

/-! ## f35 -/

noncomputable def c_35 : Code := body0 Go.Proofs.Try.f35

def fin35 (r : Bool) : Ex → St → Prop := endK X0 [.tmp 2] [4] (.d t4 r)

def F35 (a0 : Int × Int × Int × Int × Int) : Option (Bool) :=
  (bif (decide (a0.2.2.1 < a0.1)) then
    some true
  else
    some (decide (a0.2.2.2.1 < a0.2.1)))

theorem c35 {a0 : Int × Int × Int × Int × Int} {r : Bool} (h : F35 a0 = some r) : CallPure Pg 35 [(.d t55 a0)] (.d t4 r) := by
  refine callPureN hX c_35 15 [.tmp 2] [4] Go.Proofs.Try.func35 (by kernel_rfl) (by kernel_rfl) (by kernel_rfl) (Nat.le_of_ble_eq_true rfl) rfl rfl ?_
  show Run Pg 15 c_35 ⟨[(0, (.d t55 a0))], []⟩ (fin35 r)
  unfold F35 at h
  refine Run.regN hX [] 100 [1] [100] ⟨[(1, (.ptr 100 0))], [(100, (.box (.vcons (.d t55 a0) .vnil)))]⟩ [] (by kernel_rfl) (by kernel_rfl) trivial ?_
  rcases bif_elim h with ⟨hb0, h⟩ | ⟨hb0, h⟩
  · refine Run.regN hX [(5, .b true)] 200 [2] [] ⟨[(2, (.d t4 true))], []⟩ [(decide (a0.2.2.1 < a0.1)) = true] (by kernel_rfl) (by kernel_rfl) ⟨hb0, trivial⟩ ?_
    refine Run.retN (by kernel_rfl) ?_
    replace h := Option.some.inj h
    subst h
    exact ⟨[(.d t4 true)], by kernel_rfl, by kernel_rfl⟩
  · refine Run.regN hX [(5, .b false)] 200 [2] [] ⟨[(2, (.d t4 (decide (a0.2.2.2.1 < a0.2.1))))], []⟩ [(decide (a0.2.2.1 < a0.1)) = false] (by kernel_rfl) (by kernel_rfl) ⟨hb0, trivial⟩ ?_
    refine Run.retN (by kernel_rfl) ?_
    replace h := Option.some.inj h
    subst h
    exact ⟨[(.d t4 (decide (a0.2.2.2.1 < a0.2.1)))], by kernel_rfl, by kernel_rfl⟩

/-! ## f55 -/

noncomputable def c_55 : Code := body0 Go.Proofs.Try.f55

def fin55s0 (r : Int) : Ex → St → Prop := endK X0 [.tmp 4] [3] (.d t2 r)

def f55s0_l0_post (x1 : List (Int × Int × Int × Int × Int)) (x2 : Int) : ((Unit) ⊕ (Int)) → Ex → St → Prop
  | .inl o, x, s => x = .out 0 ∧ s = ⟨[], []⟩
  | .inr o, x, s => x = .ret ∧ fin55s0  o x s

def f55s0_l0_b (x1 : List (Int × Int × Int × Int × Int)) (x2 : Int) (again : Int → Option ((Unit) ⊕ (Int))) : Int → Option ((Unit) ⊕ (Int))
  | x3 =>
    (bif (decide (x3 < x2)) then
      gd (0 ≤ x3) <|
      gd (x3 < ((List.length x1 : Nat) : Int)) <|
      (F35 (List.getD x1 (toN x3) ((0 : Int), (0 : Int), (0 : Int), (0 : Int), (0 : Int)))).bind fun y5 =>
      (bif y5 then
        some (.inr x3)
      else
        again (wrapI .i64 (x3 + (1 : Int))))
    else
      some (.inl ()))

def f55s0_l0 (x1 : List (Int × Int × Int × Int × Int)) (x2 : Int) : Nat → Int → Option ((Unit) ⊕ (Int)) := loopF (f55s0_l0_b x1 x2)

theorem f55s0_l0_ok (x1 : List (Int × Int × Int × Int × Int)) (x2 : Int) (k : Nat) (x3 : Int) {out : ((Unit) ⊕ (Int))} (h : f55s0_l0 x1 x2 k x3 = some out) : Run Pg 19 (bk1 (sq2 (sq1 (sq2 c_55)))) ⟨[(0, (.d t22 x1)), (1, (.fn 35 .vnil .vnil)), (7, (.d t2 x2)), (8, (.d t2 x3))], []⟩ (f55s0_l0_post x1 x2 out) := by
  refine Run.loopN (by kernel_rfl) (fun m s => ∃ x3, s = ⟨[(0, (.d t22 x1)), (1, (.fn 35 .vnil .vnil)), (7, (.d t2 x2)), (8, (.d t2 x3))], []⟩ ∧ f55s0_l0 x1 x2 m x3 = some out) ?_ k ⟨x3,  rfl, h⟩
  rintro m s ⟨x3,  rfl, h⟩
  cases m with
  | zero => cases h
  | succ m =>
  replace h : f55s0_l0_b x1 x2 (f55s0_l0 x1 x2 m) x3 = some out := h
  unfold f55s0_l0_b at h
  refine Run.regN hX [] 300 [0, 1, 7, 8, 9] [] ⟨[(0, (.d t22 x1)), (1, (.fn 35 .vnil .vnil)), (7, (.d t2 x2)), (8, (.d t2 x3)), (9, (.d t4 (decide (x3 < x2))))], []⟩ [] (by kernel_rfl) (by kernel_rfl) trivial ?_
  refine Run.seqN (by kernel_rfl) ?_
  refine Run.condN (decide (x3 < x2)) (by kernel_rfl) (fun hb => ?_) (fun hb => ?_)
  · replace h := bif_t h hb
    refine Run.skipN (by kernel_rfl) ?_
    show Run Pg 19 _ _ _
    refine Run.seqN (by kernel_rfl) ?_
    refine Run.blockN 1 (by kernel_rfl) ?_
    refine Run.regN hX [] 400 [0, 1, 5, 7, 8] [] ⟨[(0, (.d t22 x1)), (1, (.fn 35 .vnil .vnil)), (5, (.d t2 x3)), (7, (.d t2 x2)), (8, (.d t2 x3))], []⟩ [] (by kernel_rfl) (by kernel_rfl) trivial ?_
    obtain ⟨g_0, h⟩ := gd_elim h
    obtain ⟨g_1, h⟩ := gd_elim h
    obtain ⟨y5, h_y5, h⟩ := bnd_elim h
    refine Run.regN hX [(5, .call (.d t4 y5))] 500 [0, 1, 5, 7, 8, 16] [] ⟨[(0, (.d t22 x1)), (1, (.fn 35 .vnil .vnil)), (5, (.d t2 x3)), (7, (.d t2 x2)), (8, (.d t2 x3)), (16, (.d t4 y5))], []⟩ [(0 ≤ x3), (x3 < ((List.length x1 : Nat) : Int)), CallPure Pg 35 [(.d t55 (List.getD x1 (toN x3) ((0 : Int), (0 : Int), (0 : Int), (0 : Int), (0 : Int))))] (.d t4 y5)] (by kernel_rfl) (by kernel_rfl) ⟨g_0, g_1, (c35 h_y5), trivial⟩ ?_
    refine Run.condN y5 (by kernel_rfl) (fun hb => ?_) (fun hb => ?_)
    · replace h := bif_t h hb
      refine Run.regN hX [] 600 [4] [] ⟨[(4, (.d t2 x3))], []⟩ [] (by kernel_rfl) (by kernel_rfl) trivial ?_
      refine Run.retN (by kernel_rfl) ?_
      replace h := Option.some.inj h
      subst h
      exact ⟨rfl, [(.d t2 x3)], by kernel_rfl, by kernel_rfl⟩
    · replace h := bif_f h hb
      refine Run.skipN (by kernel_rfl) ?_
      show Run Pg 19 _ _ _
      refine Run.regE hX [] 700 [0, 1, 7, 8] [] ⟨[(0, (.d t22 x1)), (1, (.fn 35 .vnil .vnil)), (7, (.d t2 x2)), (8, (.d t2 (wrapI .i64 (x3 + (1 : Int)))))], []⟩ [] (by kernel_rfl) trivial ?_
      exact ⟨m, Nat.lt_succ_self m, _, rfl, h⟩
  · replace h := bif_f h hb
    refine Run.keep (s' := ⟨[], []⟩) [] [] (by kernel_rfl) ?_
    refine Run.exitN 0 (by kernel_rfl) ?_
    replace h := Option.some.inj h
    subst h
    exact ⟨rfl, by kernel_rfl⟩

def F55s0 (a0 : List (Int × Int × Int × Int × Int)) : Option (Int) :=
  ((f55s0_l0 a0 (ofN (List.length a0)) (2 + List.length a0) (0 : Int)).bind fun o6 => match o6 with
    | .inl o7 =>
        some (-1 : Int)
    | .inr o8 =>
        some o8)

theorem c55s0 {a0 : List (Int × Int × Int × Int × Int)} {r : Int} (h : F55s0 a0 = some r) : CallPure Pg 55 [(.d t22 a0), (.fn 35 .vnil .vnil)] (.d t2 r) := by
  refine callPureN hX c_55 19 [.tmp 4] [3] Go.Proofs.Try.func55 (by kernel_rfl) (by kernel_rfl) (by kernel_rfl) (Nat.le_of_ble_eq_true rfl) rfl rfl ?_
  show Run Pg 19 c_55 ⟨[(0, (.d t22 a0)), (1, (.fn 35 .vnil .vnil))], []⟩ (fin55s0 r)
  unfold F55s0 at h
  refine Run.regN hX [] 100 [0, 1] [] ⟨[(0, (.d t22 a0)), (1, (.fn 35 .vnil .vnil))], []⟩ [] (by kernel_rfl) (by kernel_rfl) trivial ?_
  refine Run.seqN (by kernel_rfl) ?_
  refine Run.regN hX [] 200 [0, 1, 7, 8] [] ⟨[(0, (.d t22 a0)), (1, (.fn 35 .vnil .vnil)), (7, (.d t2 (ofN (List.length a0)))), (8, (.d t2 (0 : Int)))], []⟩ [] (by kernel_rfl) (by kernel_rfl) trivial ?_
  refine Run.blockN 0 (by kernel_rfl) ?_
  obtain ⟨o6, h_o6, h⟩ := bnd_elim h
  refine Run.mono (f55s0_l0_ok a0 (ofN (List.length a0)) _ (0 : Int) h_o6) ?_
  rcases o6 with o7 | o8
  · rintro x s ⟨hx, hs⟩
    subst hx
    subst hs
    show Run Pg 19 _ _ _
    refine Run.regN hX [] 800 [4] [] ⟨[(4, (.d t2 (-1 : Int)))], []⟩ [] (by kernel_rfl) (by kernel_rfl) trivial ?_
    refine Run.retN (by kernel_rfl) ?_
    replace h := Option.some.inj h
    subst h
    exact ⟨[(.d t2 (-1 : Int))], by kernel_rfl, by kernel_rfl⟩
  · rintro x s ⟨hx, hr⟩
    subst hx
    replace h := Option.some.inj h
    subst h
    exact hr

/-! ## f34 -/

noncomputable def c_34 : Code := body0 Go.Proofs.Try.f34

def fin34s0 (r : Bool) : Ex → St → Prop := endK X0 [.tmp 4] [4] (.d t4 r)

def F34s0 (a0 : List (Int × Int × Int × Int × Int)) : Option (Bool) :=
  (F55s0 a0).bind fun y1 =>
  some (decide ((0 : Int) ≤ y1))

theorem c34s0 {a0 : List (Int × Int × Int × Int × Int)} {r : Bool} (h : F34s0 a0 = some r) : CallPure Pg 34 [(.d t22 a0), (.fn 35 .vnil .vnil)] (.d t4 r) := by
  refine callPureN hX c_34 9 [.tmp 4] [4] Go.Proofs.Try.func34 (by kernel_rfl) (by kernel_rfl) (by kernel_rfl) (Nat.le_of_ble_eq_true rfl) rfl rfl ?_
  show Run Pg 9 c_34 ⟨[(0, (.d t22 a0)), (1, (.fn 35 .vnil .vnil))], []⟩ (fin34s0 r)
  unfold F34s0 at h
  refine Run.regN hX [] 100 [0, 1] [] ⟨[(0, (.d t22 a0)), (1, (.fn 35 .vnil .vnil))], []⟩ [] (by kernel_rfl) (by kernel_rfl) trivial ?_
  obtain ⟨y1, h_y1, h⟩ := bnd_elim h
  refine Run.regN hX [(2, .call (.d t2 y1))] 200 [4] [] ⟨[(4, (.d t4 (decide ((0 : Int) ≤ y1))))], []⟩ [CallPure Pg 55 [(.d t22 a0), (.fn 35 .vnil .vnil)] (.d t2 y1)] (by kernel_rfl) (by kernel_rfl) ⟨(c55s0 h_y1), trivial⟩ ?_
  refine Run.retN (by kernel_rfl) ?_
  replace h := Option.some.inj h
  subst h
  exact ⟨[(.d t4 (decide ((0 : Int) ≤ y1)))], by kernel_rfl, by kernel_rfl⟩

/-! ## f24 -/

noncomputable def c_24 : Code := body0 Go.Proofs.Try.f24

def fin24 (r : Bool) : Ex → St → Prop := endK X0 [.tmp 2] [4] (.d t4 r)

def f24_l0_post (x1 : List Int) (x2 : Int) : ((Unit) ⊕ (Bool)) → Ex → St → Prop
  | .inl o, x, s => x = .out 0 ∧ s = ⟨[], []⟩
  | .inr o, x, s => x = .ret ∧ fin24  o x s

def f24_l0_b (x1 : List Int) (x2 : Int) (again : Int → Option ((Unit) ⊕ (Bool))) : Int → Option ((Unit) ⊕ (Bool))
  | x3 =>
    (bif (decide (x3 < x2)) then
      gd (0 ≤ x3) <|
      gd (x3 < ((List.length x1 : Nat) : Int)) <|
      (bif (decide ((10000000 : Int) < (List.getD x1 (toN x3) (0 : Int)))) then
        some (.inr true)
      else
        (bif (decide ((List.getD x1 (toN x3) (0 : Int)) < (-10000000 : Int))) then
          some (.inr true)
        else
          again (wrapI .i64 (x3 + (1 : Int)))))
    else
      some (.inl ()))

def f24_l0 (x1 : List Int) (x2 : Int) : Nat → Int → Option ((Unit) ⊕ (Bool)) := loopF (f24_l0_b x1 x2)

theorem f24_l0_ok (x1 : List Int) (x2 : Int) (k : Nat) (x3 : Int) {out : ((Unit) ⊕ (Bool))} (h : f24_l0 x1 x2 k x3 = some out) : Run Pg 18 (bk1 (sq2 (sq1 (sq2 c_24)))) ⟨[(5, (.d t57 x1)), (6, (.d t2 x2)), (7, (.d t2 x3))], []⟩ (f24_l0_post x1 x2 out) := by
  refine Run.loopN (by kernel_rfl) (fun m s => ∃ x3, s = ⟨[(5, (.d t57 x1)), (6, (.d t2 x2)), (7, (.d t2 x3))], []⟩ ∧ f24_l0 x1 x2 m x3 = some out) ?_ k ⟨x3,  rfl, h⟩
  rintro m s ⟨x3,  rfl, h⟩
  cases m with
  | zero => cases h
  | succ m =>
  replace h : f24_l0_b x1 x2 (f24_l0 x1 x2 m) x3 = some out := h
  unfold f24_l0_b at h
  refine Run.regN hX [] 300 [5, 6, 7, 8] [] ⟨[(5, (.d t57 x1)), (6, (.d t2 x2)), (7, (.d t2 x3)), (8, (.d t4 (decide (x3 < x2))))], []⟩ [] (by kernel_rfl) (by kernel_rfl) trivial ?_
  refine Run.seqN (by kernel_rfl) ?_
  refine Run.condN (decide (x3 < x2)) (by kernel_rfl) (fun hb => ?_) (fun hb => ?_)
  · replace h := bif_t h hb
    refine Run.skipN (by kernel_rfl) ?_
    show Run Pg 18 _ _ _
    refine Run.seqN (by kernel_rfl) ?_
    refine Run.blockN 1 (by kernel_rfl) ?_
    obtain ⟨g_0, h⟩ := gd_elim h
    obtain ⟨g_1, h⟩ := gd_elim h
    refine Run.regN hX [] 400 [4, 5, 6, 7] [] ⟨[(4, (.d t2 (List.getD x1 (toN x3) (0 : Int)))), (5, (.d t57 x1)), (6, (.d t2 x2)), (7, (.d t2 x3))], []⟩ [(0 ≤ x3), (x3 < ((List.length x1 : Nat) : Int))] (by kernel_rfl) (by kernel_rfl) ⟨g_0, g_1, trivial⟩ ?_
    rcases bif_elim h with ⟨hb0, h⟩ | ⟨hb0, h⟩
    · refine Run.regN hX [(2, .b true)] 500 [5, 6, 7, 16] [] ⟨[(5, (.d t57 x1)), (6, (.d t2 x2)), (7, (.d t2 x3)), (16, (.d t4 true))], []⟩ [(decide ((10000000 : Int) < (List.getD x1 (toN x3) (0 : Int)))) = true] (by kernel_rfl) (by kernel_rfl) ⟨hb0, trivial⟩ ?_
      refine Run.condN true (by kernel_rfl) (fun hb => ?_) (fun hb => (by cases hb))
      refine Run.regN hX [] 600 [2] [] ⟨[(2, (.d t4 true))], []⟩ [] (by kernel_rfl) (by kernel_rfl) trivial ?_
      refine Run.retN (by kernel_rfl) ?_
      replace h := Option.some.inj h
      subst h
      exact ⟨rfl, [(.d t4 true)], by kernel_rfl, by kernel_rfl⟩
    · refine Run.regN hX [(2, .b false)] 500 [5, 6, 7, 16] [] ⟨[(5, (.d t57 x1)), (6, (.d t2 x2)), (7, (.d t2 x3)), (16, (.d t4 (decide ((List.getD x1 (toN x3) (0 : Int)) < (-10000000 : Int)))))], []⟩ [(decide ((10000000 : Int) < (List.getD x1 (toN x3) (0 : Int)))) = false] (by kernel_rfl) (by kernel_rfl) ⟨hb0, trivial⟩ ?_
      refine Run.condN (decide ((List.getD x1 (toN x3) (0 : Int)) < (-10000000 : Int))) (by kernel_rfl) (fun hb => ?_) (fun hb => ?_)
      · replace h := bif_t h hb
        refine Run.regN hX [] 600 [2] [] ⟨[(2, (.d t4 true))], []⟩ [] (by kernel_rfl) (by kernel_rfl) trivial ?_
        refine Run.retN (by kernel_rfl) ?_
        replace h := Option.some.inj h
        subst h
        exact ⟨rfl, [(.d t4 true)], by kernel_rfl, by kernel_rfl⟩
      · replace h := bif_f h hb
        refine Run.skipN (by kernel_rfl) ?_
        show Run Pg 18 _ _ _
        refine Run.regE hX [] 700 [5, 6, 7] [] ⟨[(5, (.d t57 x1)), (6, (.d t2 x2)), (7, (.d t2 (wrapI .i64 (x3 + (1 : Int)))))], []⟩ [] (by kernel_rfl) trivial ?_
        exact ⟨m, Nat.lt_succ_self m, _, rfl, h⟩
  · replace h := bif_f h hb
    refine Run.keep (s' := ⟨[], []⟩) [] [] (by kernel_rfl) ?_
    refine Run.exitN 0 (by kernel_rfl) ?_
    replace h := Option.some.inj h
    subst h
    exact ⟨rfl, by kernel_rfl⟩

def F24 (a0 : List Int) : Option (Bool) :=
  ((f24_l0 a0 (ofN (List.length a0)) (2 + List.length a0) (0 : Int)).bind fun o4 => match o4 with
    | .inl o5 =>
        some false
    | .inr o6 =>
        some o6)

theorem c24 {a0 : List Int} {r : Bool} (h : F24 a0 = some r) : CallPure Pg 24 [(.d t57 a0)] (.d t4 r) := by
  refine callPureN hX c_24 18 [.tmp 2] [4] Go.Proofs.Try.func24 (by kernel_rfl) (by kernel_rfl) (by kernel_rfl) (Nat.le_of_ble_eq_true rfl) rfl rfl ?_
  show Run Pg 18 c_24 ⟨[(0, (.d t57 a0))], []⟩ (fin24 r)
  unfold F24 at h
  refine Run.regN hX [] 100 [0] [] ⟨[(0, (.d t57 a0))], []⟩ [] (by kernel_rfl) (by kernel_rfl) trivial ?_
  refine Run.seqN (by kernel_rfl) ?_
  refine Run.regN hX [] 200 [5, 6, 7] [] ⟨[(5, (.d t57 a0)), (6, (.d t2 (ofN (List.length a0)))), (7, (.d t2 (0 : Int)))], []⟩ [] (by kernel_rfl) (by kernel_rfl) trivial ?_
  refine Run.blockN 0 (by kernel_rfl) ?_
  obtain ⟨o4, h_o4, h⟩ := bnd_elim h
  refine Run.mono (f24_l0_ok a0 (ofN (List.length a0)) _ (0 : Int) h_o4) ?_
  rcases o4 with o5 | o6
  · rintro x s ⟨hx, hs⟩
    subst hx
    subst hs
    show Run Pg 18 _ _ _
    refine Run.regN hX [] 800 [2] [] ⟨[(2, (.d t4 false))], []⟩ [] (by kernel_rfl) (by kernel_rfl) trivial ?_
    refine Run.retN (by kernel_rfl) ?_
    replace h := Option.some.inj h
    subst h
    exact ⟨[(.d t4 false)], by kernel_rfl, by kernel_rfl⟩
  · rintro x s ⟨hx, hr⟩
    subst hx
    replace h := Option.some.inj h
    subst h
    exact hr

/-! ## f36 -/

noncomputable def c_36 : Code := body0 Go.Proofs.Try.f36

def fin36 (r : Bool) : Ex → St → Prop := endK X0 [.tmp 2] [4] (.d t4 r)

def F36 (a0 : Int × Int × Int × Int × Int) : Option (Bool) :=
  (F24 ([a0.1, a0.2.1, a0.2.2.1, a0.2.2.2.1] : List Int)).bind fun y1 =>
  some y1

theorem c36 {a0 : Int × Int × Int × Int × Int} {r : Bool} (h : F36 a0 = some r) : CallPure Pg 36 [(.d t55 a0)] (.d t4 r) := by
  refine callPureN hX c_36 13 [.tmp 2] [4] Go.Proofs.Try.func36 (by kernel_rfl) (by kernel_rfl) (by kernel_rfl) (Nat.le_of_ble_eq_true rfl) rfl rfl ?_
  show Run Pg 13 c_36 ⟨[(0, (.d t55 a0))], []⟩ (fin36 r)
  unfold F36 at h
  refine Run.regN hX [] 100 [1] [100] ⟨[(1, (.ptr 100 0))], [(100, (.box (.vcons (.d t55 a0) .vnil)))]⟩ [] (by kernel_rfl) (by kernel_rfl) trivial ?_
  obtain ⟨y1, h_y1, h⟩ := bnd_elim h
  refine Run.regN hX [(9, .call (.d t4 y1))] 200 [2] [] ⟨[(2, (.d t4 y1))], []⟩ [CallPure Pg 24 [(.d t57 ([a0.1, a0.2.1, a0.2.2.1, a0.2.2.2.1] : List Int))] (.d t4 y1)] (by kernel_rfl) (by kernel_rfl) ⟨(c24 h_y1), trivial⟩ ?_
  refine Run.retN (by kernel_rfl) ?_
  replace h := Option.some.inj h
  subst h
  exact ⟨[(.d t4 y1)], by kernel_rfl, by kernel_rfl⟩

/-! ## f55 -/

def fin55s1 (r : Int) : Ex → St → Prop := endK X0 [.tmp 4] [3] (.d t2 r)

def f55s1_l0_post (x1 : List (Int × Int × Int × Int × Int)) (x2 : Int) : ((Unit) ⊕ (Int)) → Ex → St → Prop
  | .inl o, x, s => x = .out 0 ∧ s = ⟨[], []⟩
  | .inr o, x, s => x = .ret ∧ fin55s1  o x s

def f55s1_l0_b (x1 : List (Int × Int × Int × Int × Int)) (x2 : Int) (again : Int → Option ((Unit) ⊕ (Int))) : Int → Option ((Unit) ⊕ (Int))
  | x3 =>
    (bif (decide (x3 < x2)) then
      gd (0 ≤ x3) <|
      gd (x3 < ((List.length x1 : Nat) : Int)) <|
      (F36 (List.getD x1 (toN x3) ((0 : Int), (0 : Int), (0 : Int), (0 : Int), (0 : Int)))).bind fun y5 =>
      (bif y5 then
        some (.inr x3)
      else
        again (wrapI .i64 (x3 + (1 : Int))))
    else
      some (.inl ()))

def f55s1_l0 (x1 : List (Int × Int × Int × Int × Int)) (x2 : Int) : Nat → Int → Option ((Unit) ⊕ (Int)) := loopF (f55s1_l0_b x1 x2)

theorem f55s1_l0_ok (x1 : List (Int × Int × Int × Int × Int)) (x2 : Int) (k : Nat) (x3 : Int) {out : ((Unit) ⊕ (Int))} (h : f55s1_l0 x1 x2 k x3 = some out) : Run Pg 19 (bk1 (sq2 (sq1 (sq2 c_55)))) ⟨[(0, (.d t22 x1)), (1, (.fn 36 .vnil .vnil)), (7, (.d t2 x2)), (8, (.d t2 x3))], []⟩ (f55s1_l0_post x1 x2 out) := by
  refine Run.loopN (by kernel_rfl) (fun m s => ∃ x3, s = ⟨[(0, (.d t22 x1)), (1, (.fn 36 .vnil .vnil)), (7, (.d t2 x2)), (8, (.d t2 x3))], []⟩ ∧ f55s1_l0 x1 x2 m x3 = some out) ?_ k ⟨x3,  rfl, h⟩
  rintro m s ⟨x3,  rfl, h⟩
  cases m with
  | zero => cases h
  | succ m =>
  replace h : f55s1_l0_b x1 x2 (f55s1_l0 x1 x2 m) x3 = some out := h
  unfold f55s1_l0_b at h
  refine Run.regN hX [] 300 [0, 1, 7, 8, 9] [] ⟨[(0, (.d t22 x1)), (1, (.fn 36 .vnil .vnil)), (7, (.d t2 x2)), (8, (.d t2 x3)), (9, (.d t4 (decide (x3 < x2))))], []⟩ [] (by kernel_rfl) (by kernel_rfl) trivial ?_
  refine Run.seqN (by kernel_rfl) ?_
  refine Run.condN (decide (x3 < x2)) (by kernel_rfl) (fun hb => ?_) (fun hb => ?_)
  · replace h := bif_t h hb
    refine Run.skipN (by kernel_rfl) ?_
    show Run Pg 19 _ _ _
    refine Run.seqN (by kernel_rfl) ?_
    refine Run.blockN 1 (by kernel_rfl) ?_
    refine Run.regN hX [] 400 [0, 1, 5, 7, 8] [] ⟨[(0, (.d t22 x1)), (1, (.fn 36 .vnil .vnil)), (5, (.d t2 x3)), (7, (.d t2 x2)), (8, (.d t2 x3))], []⟩ [] (by kernel_rfl) (by kernel_rfl) trivial ?_
    obtain ⟨g_0, h⟩ := gd_elim h
    obtain ⟨g_1, h⟩ := gd_elim h
    obtain ⟨y5, h_y5, h⟩ := bnd_elim h
    refine Run.regN hX [(5, .call (.d t4 y5))] 500 [0, 1, 5, 7, 8, 16] [] ⟨[(0, (.d t22 x1)), (1, (.fn 36 .vnil .vnil)), (5, (.d t2 x3)), (7, (.d t2 x2)), (8, (.d t2 x3)), (16, (.d t4 y5))], []⟩ [(0 ≤ x3), (x3 < ((List.length x1 : Nat) : Int)), CallPure Pg 36 [(.d t55 (List.getD x1 (toN x3) ((0 : Int), (0 : Int), (0 : Int), (0 : Int), (0 : Int))))] (.d t4 y5)] (by kernel_rfl) (by kernel_rfl) ⟨g_0, g_1, (c36 h_y5), trivial⟩ ?_
    refine Run.condN y5 (by kernel_rfl) (fun hb => ?_) (fun hb => ?_)
    · replace h := bif_t h hb
      refine Run.regN hX [] 600 [4] [] ⟨[(4, (.d t2 x3))], []⟩ [] (by kernel_rfl) (by kernel_rfl) trivial ?_
      refine Run.retN (by kernel_rfl) ?_
      replace h := Option.some.inj h
      subst h
      exact ⟨rfl, [(.d t2 x3)], by kernel_rfl, by kernel_rfl⟩
    · replace h := bif_f h hb
      refine Run.skipN (by kernel_rfl) ?_
      show Run Pg 19 _ _ _
      refine Run.regE hX [] 700 [0, 1, 7, 8] [] ⟨[(0, (.d t22 x1)), (1, (.fn 36 .vnil .vnil)), (7, (.d t2 x2)), (8, (.d t2 (wrapI .i64 (x3 + (1 : Int)))))], []⟩ [] (by kernel_rfl) trivial ?_
      exact ⟨m, Nat.lt_succ_self m, _, rfl, h⟩
  · replace h := bif_f h hb
    refine Run.keep (s' := ⟨[], []⟩) [] [] (by kernel_rfl) ?_
    refine Run.exitN 0 (by kernel_rfl) ?_
    replace h := Option.some.inj h
    subst h
    exact ⟨rfl, by kernel_rfl⟩

def F55s1 (a0 : List (Int × Int × Int × Int × Int)) : Option (Int) :=
  ((f55s1_l0 a0 (ofN (List.length a0)) (2 + List.length a0) (0 : Int)).bind fun o6 => match o6 with
    | .inl o7 =>
        some (-1 : Int)
    | .inr o8 =>
        some o8)

theorem c55s1 {a0 : List (Int × Int × Int × Int × Int)} {r : Int} (h : F55s1 a0 = some r) : CallPure Pg 55 [(.d t22 a0), (.fn 36 .vnil .vnil)] (.d t2 r) := by
  refine callPureN hX c_55 19 [.tmp 4] [3] Go.Proofs.Try.func55 (by kernel_rfl) (by kernel_rfl) (by kernel_rfl) (Nat.le_of_ble_eq_true rfl) rfl rfl ?_
  show Run Pg 19 c_55 ⟨[(0, (.d t22 a0)), (1, (.fn 36 .vnil .vnil))], []⟩ (fin55s1 r)
  unfold F55s1 at h
  refine Run.regN hX [] 100 [0, 1] [] ⟨[(0, (.d t22 a0)), (1, (.fn 36 .vnil .vnil))], []⟩ [] (by kernel_rfl) (by kernel_rfl) trivial ?_
  refine Run.seqN (by kernel_rfl) ?_
  refine Run.regN hX [] 200 [0, 1, 7, 8] [] ⟨[(0, (.d t22 a0)), (1, (.fn 36 .vnil .vnil)), (7, (.d t2 (ofN (List.length a0)))), (8, (.d t2 (0 : Int)))], []⟩ [] (by kernel_rfl) (by kernel_rfl) trivial ?_
  refine Run.blockN 0 (by kernel_rfl) ?_
  obtain ⟨o6, h_o6, h⟩ := bnd_elim h
  refine Run.mono (f55s1_l0_ok a0 (ofN (List.length a0)) _ (0 : Int) h_o6) ?_
  rcases o6 with o7 | o8
  · rintro x s ⟨hx, hs⟩
    subst hx
    subst hs
    show Run Pg 19 _ _ _
    refine Run.regN hX [] 800 [4] [] ⟨[(4, (.d t2 (-1 : Int)))], []⟩ [] (by kernel_rfl) (by kernel_rfl) trivial ?_
    refine Run.retN (by kernel_rfl) ?_
    replace h := Option.some.inj h
    subst h
    exact ⟨[(.d t2 (-1 : Int))], by kernel_rfl, by kernel_rfl⟩
  · rintro x s ⟨hx, hr⟩
    subst hx
    replace h := Option.some.inj h
    subst h
    exact hr

/-! ## f34 -/

def fin34s1 (r : Bool) : Ex → St → Prop := endK X0 [.tmp 4] [4] (.d t4 r)

def F34s1 (a0 : List (Int × Int × Int × Int × Int)) : Option (Bool) :=
  (F55s1 a0).bind fun y1 =>
  some (decide ((0 : Int) ≤ y1))

theorem c34s1 {a0 : List (Int × Int × Int × Int × Int)} {r : Bool} (h : F34s1 a0 = some r) : CallPure Pg 34 [(.d t22 a0), (.fn 36 .vnil .vnil)] (.d t4 r) := by
  refine callPureN hX c_34 9 [.tmp 4] [4] Go.Proofs.Try.func34 (by kernel_rfl) (by kernel_rfl) (by kernel_rfl) (Nat.le_of_ble_eq_true rfl) rfl rfl ?_
  show Run Pg 9 c_34 ⟨[(0, (.d t22 a0)), (1, (.fn 36 .vnil .vnil))], []⟩ (fin34s1 r)
  unfold F34s1 at h
  refine Run.regN hX [] 100 [0, 1] [] ⟨[(0, (.d t22 a0)), (1, (.fn 36 .vnil .vnil))], []⟩ [] (by kernel_rfl) (by kernel_rfl) trivial ?_
  obtain ⟨y1, h_y1, h⟩ := bnd_elim h
  refine Run.regN hX [(2, .call (.d t2 y1))] 200 [4] [] ⟨[(4, (.d t4 (decide ((0 : Int) ≤ y1))))], []⟩ [CallPure Pg 55 [(.d t22 a0), (.fn 36 .vnil .vnil)] (.d t2 y1)] (by kernel_rfl) (by kernel_rfl) ⟨(c55s1 h_y1), trivial⟩ ?_
  refine Run.retN (by kernel_rfl) ?_
  replace h := Option.some.inj h
  subst h
  exact ⟨[(.d t4 (decide ((0 : Int) ≤ y1)))], by kernel_rfl, by kernel_rfl⟩

/-! ## f46 -/

noncomputable def c_46 : Code := body0 Go.Proofs.Try.f46

def fin46 (r : Bool) : Ex → St → Prop := endK X0 [.tmp 4] [4] (.d t4 r)

def F46 (a0 : Int × Int) (a1 : Int × Int) : Option (Bool) :=
  some (decide ((wrapI .i64 (a0.1 * a1.2)) < (wrapI .i64 (a1.1 * a0.2))))

theorem c46 {a0 : Int × Int} {a1 : Int × Int} {r : Bool} (h : F46 a0 a1 = some r) : CallPure Pg 46 [(.d t28 a0), (.d t28 a1)] (.d t4 r) := by
  refine callPureN hX c_46 16 [.tmp 4] [4] Go.Proofs.Try.func46 (by kernel_rfl) (by kernel_rfl) (by kernel_rfl) (Nat.le_of_ble_eq_true rfl) rfl rfl ?_
  show Run Pg 16 c_46 ⟨[(0, (.d t28 a0)), (1, (.d t28 a1))], []⟩ (fin46 r)
  unfold F46 at h
  refine Run.regN hX [] 100 [2, 3] [100, 101] ⟨[(2, (.ptr 100 0)), (3, (.ptr 101 0))], [(100, (.box (.vcons (.d t28 a0) .vnil))), (101, (.box (.vcons (.d t28 a1) .vnil)))]⟩ [] (by kernel_rfl) (by kernel_rfl) trivial ?_
  refine Run.regN hX [] 200 [4] [] ⟨[(4, (.d t4 (decide ((wrapI .i64 (a0.1 * a1.2)) < (wrapI .i64 (a1.1 * a0.2))))))], []⟩ [] (by kernel_rfl) (by kernel_rfl) trivial ?_
  refine Run.retN (by kernel_rfl) ?_
  replace h := Option.some.inj h
  subst h
  exact ⟨[(.d t4 (decide ((wrapI .i64 (a0.1 * a1.2)) < (wrapI .i64 (a1.1 * a0.2)))))], by kernel_rfl, by kernel_rfl⟩

/-! ## f44 -/

noncomputable def c_44 : Code := body0 Go.Proofs.Try.f44

def fin44 (r : (Int × Int)) : Ex → St → Prop := endK X0 [.cell 4 82] [82] (.d t28 r)

def F44 (a0 : Int × Int) (a1 : Int × Int) : Option ((Int × Int)) :=
  (F46 a0 a1).bind fun y1 =>
  (bif y1 then
    some a1
  else
    some a0)

theorem c44 {a0 : Int × Int} {a1 : Int × Int} {r : (Int × Int)} (h : F44 a0 a1 = some r) : CallPure Pg 44 [(.d t28 a0), (.d t28 a1)] (.d t28 r) := by
  refine callPureN hX c_44 10 [.cell 4 82] [82] Go.Proofs.Try.func44 (by kernel_rfl) (by kernel_rfl) (by kernel_rfl) (Nat.le_of_ble_eq_true rfl) rfl rfl ?_
  show Run Pg 10 c_44 ⟨[(0, (.d t28 a0)), (1, (.d t28 a1))], []⟩ (fin44 r)
  unfold F44 at h
  refine Run.regN hX [] 100 [2, 3, 4] [100, 101, 102] ⟨[(2, (.ptr 100 0)), (3, (.ptr 101 0)), (4, (.ptr 102 0))], [(100, (.box (.vcons (.d t28 a0) .vnil))), (101, (.box (.vcons (.d t28 a1) .vnil))), (102, (.box (.vcons (.d t28 ((0 : Int), (0 : Int))) .vnil)))]⟩ [] (by kernel_rfl) (by kernel_rfl) trivial ?_
  refine Run.seqN (by kernel_rfl) ?_
  obtain ⟨y1, h_y1, h⟩ := bnd_elim h
  refine Run.regN hX [(2, .call (.d t4 y1))] 200 [2, 3, 4, 7] [100, 101, 102] ⟨[(2, (.ptr 100 0)), (3, (.ptr 101 0)), (4, (.ptr 102 0)), (7, (.d t4 y1))], [(100, (.box (.vcons (.d t28 a0) .vnil))), (101, (.box (.vcons (.d t28 a1) .vnil))), (102, (.box (.vcons (.d t28 ((0 : Int), (0 : Int))) .vnil)))]⟩ [CallPure Pg 46 [(.d t28 a0), (.d t28 a1)] (.d t4 y1)] (by kernel_rfl) (by kernel_rfl) ⟨(c46 h_y1), trivial⟩ ?_
  refine Run.condN y1 (by kernel_rfl) (fun hb => ?_) (fun hb => ?_)
  · replace h := bif_t h hb
    refine Run.regN hX [] 300 [4] [102] ⟨[(4, (.ptr 102 0))], [(102, (.box (.vcons (.d t28 a1) .vnil)))]⟩ [] (by kernel_rfl) (by kernel_rfl) trivial ?_
    refine Run.retN (by kernel_rfl) ?_
    replace h := Option.some.inj h
    subst h
    exact ⟨[(.d t28 a1)], by kernel_rfl, by kernel_rfl⟩
  · replace h := bif_f h hb
    refine Run.skipN (by kernel_rfl) ?_
    show Run Pg 10 _ _ _
    refine Run.regN hX [] 400 [4] [102] ⟨[(4, (.ptr 102 0))], [(102, (.box (.vcons (.d t28 a0) .vnil)))]⟩ [] (by kernel_rfl) (by kernel_rfl) trivial ?_
    refine Run.retN (by kernel_rfl) ?_
    replace h := Option.some.inj h
    subst h
    exact ⟨[(.d t28 a0)], by kernel_rfl, by kernel_rfl⟩

/-! ## f45 -/

noncomputable def c_45 : Code := body0 Go.Proofs.Try.f45

def fin45 (r : (Int × Int)) : Ex → St → Prop := endK X0 [.cell 4 82] [82] (.d t28 r)

def F45 (a0 : Int × Int) (a1 : Int × Int) : Option ((Int × Int)) :=
  (F46 a1 a0).bind fun y1 =>
  (bif y1 then
    some a1
  else
    some a0)

theorem c45 {a0 : Int × Int} {a1 : Int × Int} {r : (Int × Int)} (h : F45 a0 a1 = some r) : CallPure Pg 45 [(.d t28 a0), (.d t28 a1)] (.d t28 r) := by
  refine callPureN hX c_45 10 [.cell 4 82] [82] Go.Proofs.Try.func45 (by kernel_rfl) (by kernel_rfl) (by kernel_rfl) (Nat.le_of_ble_eq_true rfl) rfl rfl ?_
  show Run Pg 10 c_45 ⟨[(0, (.d t28 a0)), (1, (.d t28 a1))], []⟩ (fin45 r)
  unfold F45 at h
  refine Run.regN hX [] 100 [2, 3, 4] [100, 101, 102] ⟨[(2, (.ptr 100 0)), (3, (.ptr 101 0)), (4, (.ptr 102 0))], [(100, (.box (.vcons (.d t28 a0) .vnil))), (101, (.box (.vcons (.d t28 a1) .vnil))), (102, (.box (.vcons (.d t28 ((0 : Int), (0 : Int))) .vnil)))]⟩ [] (by kernel_rfl) (by kernel_rfl) trivial ?_
  refine Run.seqN (by kernel_rfl) ?_
  obtain ⟨y1, h_y1, h⟩ := bnd_elim h
  refine Run.regN hX [(2, .call (.d t4 y1))] 200 [2, 3, 4, 7] [100, 101, 102] ⟨[(2, (.ptr 100 0)), (3, (.ptr 101 0)), (4, (.ptr 102 0)), (7, (.d t4 y1))], [(100, (.box (.vcons (.d t28 a0) .vnil))), (101, (.box (.vcons (.d t28 a1) .vnil))), (102, (.box (.vcons (.d t28 ((0 : Int), (0 : Int))) .vnil)))]⟩ [CallPure Pg 46 [(.d t28 a1), (.d t28 a0)] (.d t4 y1)] (by kernel_rfl) (by kernel_rfl) ⟨(c46 h_y1), trivial⟩ ?_
  refine Run.condN y1 (by kernel_rfl) (fun hb => ?_) (fun hb => ?_)
  · replace h := bif_t h hb
    refine Run.regN hX [] 300 [4] [102] ⟨[(4, (.ptr 102 0))], [(102, (.box (.vcons (.d t28 a1) .vnil)))]⟩ [] (by kernel_rfl) (by kernel_rfl) trivial ?_
    refine Run.retN (by kernel_rfl) ?_
    replace h := Option.some.inj h
    subst h
    exact ⟨[(.d t28 a1)], by kernel_rfl, by kernel_rfl⟩
  · replace h := bif_f h hb
    refine Run.skipN (by kernel_rfl) ?_
    show Run Pg 10 _ _ _
    refine Run.regN hX [] 400 [4] [102] ⟨[(4, (.ptr 102 0))], [(102, (.box (.vcons (.d t28 a0) .vnil)))]⟩ [] (by kernel_rfl) (by kernel_rfl) trivial ?_
    refine Run.retN (by kernel_rfl) ?_
    replace h := Option.some.inj h
    subst h
    exact ⟨[(.d t28 a0)], by kernel_rfl, by kernel_rfl⟩

/-! ## f43 -/

noncomputable def c_43 : Code := body0 Go.Proofs.Try.f43

def fin43s0 (a4 : Int × Int) (a5 : Int × Int) (r : Bool × (Int × Int) × (Int × Int)) : Ex → St → Prop := endS X0 [.tmp 10] [4] (.d t4 r.1) [(1000000, (.box (.vcons (.d t28 r.2.1) .vnil))), (1000001, (.box (.vcons (.d t28 r.2.2) .vnil)))]

def f43s0_c0_post (x1 : Int) (x2 : Int) (x3 : Int) (x4 : Int) (x5 : Bool) (x6 : Int × Int) (x7 : Int × Int) (x8 : Int × Int) (x9 : Int × Int) : ((Int × Int) × (Int × Int)) → Ex → St → Prop
  | o, x, s => x = .nrm ∧ s = ⟨[(4, (.ptr 1000000 0)), (5, (.ptr 1000001 0)), (11, (.ptr 410 0)), (12, (.ptr 411 0))], [(410, (.box (.vcons (.d t28 o.1) .vnil))), (411, (.box (.vcons (.d t28 o.2) .vnil))), (1000000, (.box (.vcons (.d t28 x8) .vnil))), (1000001, (.box (.vcons (.d t28 x9) .vnil)))]⟩

def f43s0_c0 (x1 : Int) (x2 : Int) (x3 : Int) (x4 : Int) (x5 : Bool) (x6 : Int × Int) (x7 : Int × Int) : Option ((Int × Int) × (Int × Int)) :=
  (bif x5 then
    some (((wrapI .i64 (x1 - x4)), (wrapI .i64 (0 - x2))), ((wrapI .i64 (x1 - x3)), (wrapI .i64 (0 - x2))))
  else
    some (x6, x7))

theorem f43s0_c0_ok (x1 : Int) (x2 : Int) (x3 : Int) (x4 : Int) (x5 : Bool) (x6 : Int × Int) (x7 : Int × Int) (x8 : Int × Int) (x9 : Int × Int) {out : ((Int × Int) × (Int × Int))} (h : f43s0_c0 x1 x2 x3 x4 x5 x6 x7 = some out) : Run Pg 53 (sq2 (sq1 (sq2 (sq2 (sq2 c_43))))) ⟨[(0, (.d t2 x1)), (1, (.d t2 x2)), (2, (.d t2 x3)), (3, (.d t2 x4)), (4, (.ptr 1000000 0)), (5, (.ptr 1000001 0)), (11, (.ptr 410 0)), (12, (.ptr 411 0)), (34, (.d t4 x5))], [(410, (.box (.vcons (.d t28 x6) .vnil))), (411, (.box (.vcons (.d t28 x7) .vnil))), (1000000, (.box (.vcons (.d t28 x8) .vnil))), (1000001, (.box (.vcons (.d t28 x9) .vnil)))]⟩ (f43s0_c0_post x1 x2 x3 x4 x5 x6 x7 x8 x9 out) := by
  unfold f43s0_c0 at h
  refine Run.condN x5 (by kernel_rfl) (fun hb => ?_) (fun hb => ?_)
  · replace h := bif_t h hb
    refine Run.regE hX [] 600 [4, 5, 11, 12] [410, 411, 1000000, 1000001] ⟨[(4, (.ptr 1000000 0)), (5, (.ptr 1000001 0)), (11, (.ptr 410 0)), (12, (.ptr 411 0))], [(410, (.box (.vcons (.d t28 ((wrapI .i64 (x1 - x4)), (wrapI .i64 (0 - x2)))) .vnil))), (411, (.box (.vcons (.d t28 ((wrapI .i64 (x1 - x3)), (wrapI .i64 (0 - x2)))) .vnil))), (1000000, (.box (.vcons (.d t28 x8) .vnil))), (1000001, (.box (.vcons (.d t28 x9) .vnil)))]⟩ [] (by kernel_rfl) trivial ?_
    replace h := Option.some.inj h
    subst h
    exact ⟨rfl, by kernel_rfl⟩
  · replace h := bif_f h hb
    refine Run.keep (s' := ⟨[(4, (.ptr 1000000 0)), (5, (.ptr 1000001 0)), (11, (.ptr 410 0)), (12, (.ptr 411 0))], [(410, (.box (.vcons (.d t28 x6) .vnil))), (411, (.box (.vcons (.d t28 x7) .vnil))), (1000000, (.box (.vcons (.d t28 x8) .vnil))), (1000001, (.box (.vcons (.d t28 x9) .vnil)))]⟩) [4, 5, 11, 12] [410, 411, 1000000, 1000001] (by kernel_rfl) ?_
    refine Run.skipN (by kernel_rfl) ?_
    replace h := Option.some.inj h
    subst h
    exact ⟨rfl, by kernel_rfl⟩

def F43s0 (a0 : Int) (a1 : Int) (a2 : Int) (a3 : Int) (a4 : Int × Int) (a5 : Int × Int) : Option (Bool × (Int × Int) × (Int × Int)) :=
  (bif (a1 == (0 : Int)) then
    (bif (decide (a2 < a0)) then
      some ((decide (a0 < a3)), a4, a5)
    else
      some (false, a4, a5))
  else
    ((f43s0_c0 a0 a1 a2 a3 (decide (a1 < (0 : Int))) ((wrapI .i64 (a2 - a0)), a1) ((wrapI .i64 (a3 - a0)), a1)).bind fun o10 =>
      (F44 a4 o10.1).bind fun y11 =>
      (F45 a5 o10.2).bind fun y12 =>
      some (true, y11, y12)))

theorem c43s0 {a0 : Int} {a1 : Int} {a2 : Int} {a3 : Int} {a4 : Int × Int} {a5 : Int × Int} {r : Bool × (Int × Int) × (Int × Int)} (h : F43s0 a0 a1 a2 a3 a4 a5 = some r) : CallSt Pg 43 [(.d t2 a0), (.d t2 a1), (.d t2 a2), (.d t2 a3), (.ptr 1000000 0), (.ptr 1000001 0)] [(1000000, (.box (.vcons (.d t28 a4) .vnil))), (1000001, (.box (.vcons (.d t28 a5) .vnil)))] (.d t4 r.1) [(1000000, (.box (.vcons (.d t28 r.2.1) .vnil))), (1000001, (.box (.vcons (.d t28 r.2.2) .vnil)))] := by
  refine callStN hX c_43 53 [.tmp 10] [4] Go.Proofs.Try.func43 (by kernel_rfl) (by kernel_rfl) (by kernel_rfl) (Nat.le_of_ble_eq_true rfl) rfl ?_
  show Run Pg 53 c_43 ⟨[(0, (.d t2 a0)), (1, (.d t2 a1)), (2, (.d t2 a2)), (3, (.d t2 a3)), (4, (.ptr 1000000 0)), (5, (.ptr 1000001 0))], [(1000000, (.box (.vcons (.d t28 a4) .vnil))), (1000001, (.box (.vcons (.d t28 a5) .vnil)))]⟩ (fin43s0 a4 a5 r)
  unfold F43s0 at h
  refine Run.regN hX [] 100 [0, 1, 2, 3, 4, 5] [1000000, 1000001] ⟨[(0, (.d t2 a0)), (1, (.d t2 a1)), (2, (.d t2 a2)), (3, (.d t2 a3)), (4, (.ptr 1000000 0)), (5, (.ptr 1000001 0))], [(1000000, (.box (.vcons (.d t28 a4) .vnil))), (1000001, (.box (.vcons (.d t28 a5) .vnil)))]⟩ [] (by kernel_rfl) (by kernel_rfl) trivial ?_
  refine Run.seqN (by kernel_rfl) ?_
  refine Run.regN hX [] 200 [0, 1, 2, 3, 4, 5, 14] [1000000, 1000001] ⟨[(0, (.d t2 a0)), (1, (.d t2 a1)), (2, (.d t2 a2)), (3, (.d t2 a3)), (4, (.ptr 1000000 0)), (5, (.ptr 1000001 0)), (14, (.d t4 (a1 == (0 : Int))))], [(1000000, (.box (.vcons (.d t28 a4) .vnil))), (1000001, (.box (.vcons (.d t28 a5) .vnil)))]⟩ [] (by kernel_rfl) (by kernel_rfl) trivial ?_
  refine Run.condN (a1 == (0 : Int)) (by kernel_rfl) (fun hb => ?_) (fun hb => ?_)
  · replace h := bif_t h hb
    rcases bif_elim h with ⟨hb0, h⟩ | ⟨hb0, h⟩
    · refine Run.regN hX [(3, .b true)] 300 [10] [1000000, 1000001] ⟨[(10, (.d t4 (decide (a0 < a3))))], [(1000000, (.box (.vcons (.d t28 a4) .vnil))), (1000001, (.box (.vcons (.d t28 a5) .vnil)))]⟩ [(decide (a2 < a0)) = true] (by kernel_rfl) (by kernel_rfl) ⟨hb0, trivial⟩ ?_
      refine Run.retN (by kernel_rfl) ?_
      replace h := Option.some.inj h
      subst h
      exact ⟨[(.d t4 (decide (a0 < a3)))], ⟨[], [(1000000, (.box (.vcons (.d t28 a4) .vnil))), (1000001, (.box (.vcons (.d t28 a5) .vnil)))]⟩, by kernel_rfl, by kernel_rfl, by kernel_rfl, by kernel_rfl⟩
    · refine Run.regN hX [(3, .b false)] 300 [10] [1000000, 1000001] ⟨[(10, (.d t4 false))], [(1000000, (.box (.vcons (.d t28 a4) .vnil))), (1000001, (.box (.vcons (.d t28 a5) .vnil)))]⟩ [(decide (a2 < a0)) = false] (by kernel_rfl) (by kernel_rfl) ⟨hb0, trivial⟩ ?_
      refine Run.retN (by kernel_rfl) ?_
      replace h := Option.some.inj h
      subst h
      exact ⟨[(.d t4 false)], ⟨[], [(1000000, (.box (.vcons (.d t28 a4) .vnil))), (1000001, (.box (.vcons (.d t28 a5) .vnil)))]⟩, by kernel_rfl, by kernel_rfl, by kernel_rfl, by kernel_rfl⟩
  · replace h := bif_f h hb
    refine Run.skipN (by kernel_rfl) ?_
    show Run Pg 53 _ _ _
    refine Run.regN hX [] 400 [0, 1, 2, 3, 4, 5, 11, 12] [410, 411, 1000000, 1000001] ⟨[(0, (.d t2 a0)), (1, (.d t2 a1)), (2, (.d t2 a2)), (3, (.d t2 a3)), (4, (.ptr 1000000 0)), (5, (.ptr 1000001 0)), (11, (.ptr 410 0)), (12, (.ptr 411 0))], [(410, (.box (.vcons (.d t28 ((wrapI .i64 (a2 - a0)), a1)) .vnil))), (411, (.box (.vcons (.d t28 ((wrapI .i64 (a3 - a0)), a1)) .vnil))), (1000000, (.box (.vcons (.d t28 a4) .vnil))), (1000001, (.box (.vcons (.d t28 a5) .vnil)))]⟩ [] (by kernel_rfl) (by kernel_rfl) trivial ?_
    refine Run.seqN (by kernel_rfl) ?_
    refine Run.regN hX [] 500 [0, 1, 2, 3, 4, 5, 11, 12, 34] [410, 411, 1000000, 1000001] ⟨[(0, (.d t2 a0)), (1, (.d t2 a1)), (2, (.d t2 a2)), (3, (.d t2 a3)), (4, (.ptr 1000000 0)), (5, (.ptr 1000001 0)), (11, (.ptr 410 0)), (12, (.ptr 411 0)), (34, (.d t4 (decide (a1 < (0 : Int)))))], [(410, (.box (.vcons (.d t28 ((wrapI .i64 (a2 - a0)), a1)) .vnil))), (411, (.box (.vcons (.d t28 ((wrapI .i64 (a3 - a0)), a1)) .vnil))), (1000000, (.box (.vcons (.d t28 a4) .vnil))), (1000001, (.box (.vcons (.d t28 a5) .vnil)))]⟩ [] (by kernel_rfl) (by kernel_rfl) trivial ?_
    obtain ⟨o10, h_o10, h⟩ := bnd_elim h
    refine Run.mono (f43s0_c0_ok a0 a1 a2 a3 (decide (a1 < (0 : Int))) ((wrapI .i64 (a2 - a0)), a1) ((wrapI .i64 (a3 - a0)), a1) a4 a5 h_o10) ?_
    rintro x s ⟨hx, hs⟩
    subst hx
    subst hs
    show Run Pg 53 _ _ _
    obtain ⟨y11, h_y11, h⟩ := bnd_elim h
    obtain ⟨y12, h_y12, h⟩ := bnd_elim h
    refine Run.regN hX [(2, .call (.d t28 y11)), (5, .call (.d t28 y12))] 700 [] [1000000, 1000001] ⟨[], [(1000000, (.box (.vcons (.d t28 y11) .vnil))), (1000001, (.box (.vcons (.d t28 y12) .vnil)))]⟩ [CallPure Pg 44 [(.d t28 a4), (.d t28 o10.1)] (.d t28 y11), CallPure Pg 45 [(.d t28 a5), (.d t28 o10.2)] (.d t28 y12)] (by kernel_rfl) (by kernel_rfl) ⟨(c44 h_y11), (c45 h_y12), trivial⟩ ?_
    refine Run.regN hX [] 800 [10] [1000000, 1000001] ⟨[(10, (.d t4 true))], [(1000000, (.box (.vcons (.d t28 y11) .vnil))), (1000001, (.box (.vcons (.d t28 y12) .vnil)))]⟩ [] (by kernel_rfl) (by kernel_rfl) trivial ?_
    refine Run.retN (by kernel_rfl) ?_
    replace h := Option.some.inj h
    subst h
    exact ⟨[(.d t4 true)], ⟨[], [(1000000, (.box (.vcons (.d t28 y11) .vnil))), (1000001, (.box (.vcons (.d t28 y12) .vnil)))]⟩, by kernel_rfl, by kernel_rfl, by kernel_rfl, by kernel_rfl⟩

/-! ## f21 -/

noncomputable def c_21 : Code := body0 Go.Proofs.Try.f21

def fin21 (r : Bool) : Ex → St → Prop := endK X0 [.tmp 6] [4] (.d t4 r)

def F21 (a0 : Int × Int × Int × Int × Int) (a1 : Int × Int) (a2 : Int × Int) : Option (Bool) :=
  (bif (decide (a0.2.2.1 ≤ a0.1)) then
    some false
  else
    (bif (decide (a0.2.2.2.1 ≤ a0.2.1)) then
      some false
    else
      (F43s0 a1.1 (wrapI .i64 (a2.1 - a1.1)) a0.1 a0.2.2.1 ((0 : Int), (1 : Int)) ((1 : Int), (1 : Int))).bind fun y1 =>
      (bif (!y1.1) then
        some false
      else
        (F43s0 a1.2 (wrapI .i64 (a2.2 - a1.2)) a0.2.1 a0.2.2.2.1 y1.2.1 y1.2.2).bind fun y2 =>
        (bif (!y2.1) then
          some false
        else
          (F46 y2.2.1 y2.2.2).bind fun y3 =>
          some y3))))

theorem c21 {a0 : Int × Int × Int × Int × Int} {a1 : Int × Int} {a2 : Int × Int} {r : Bool} (h : F21 a0 a1 a2 = some r) : CallPure Pg 21 [(.d t55 a0), (.d t28 a1), (.d t28 a2)] (.d t4 r) := by
  refine callPureN hX c_21 58 [.tmp 6] [4] Go.Proofs.Try.func21 (by kernel_rfl) (by kernel_rfl) (by kernel_rfl) (Nat.le_of_ble_eq_true rfl) rfl rfl ?_
  show Run Pg 58 c_21 ⟨[(0, (.d t55 a0)), (1, (.d t28 a1)), (2, (.d t28 a2))], []⟩ (fin21 r)
  unfold F21 at h
  refine Run.regN hX [] 100 [3, 4, 5] [100, 101, 102] ⟨[(3, (.ptr 100 0)), (4, (.ptr 101 0)), (5, (.ptr 102 0))], [(100, (.box (.vcons (.d t55 a0) .vnil))), (101, (.box (.vcons (.d t28 a1) .vnil))), (102, (.box (.vcons (.d t28 a2) .vnil)))]⟩ [] (by kernel_rfl) (by kernel_rfl) trivial ?_
  refine Run.seqN (by kernel_rfl) ?_
  rcases bif_elim h with ⟨hb0, h⟩ | ⟨hb0, h⟩
  · refine Run.regN hX [(5, .b true)] 200 [3, 4, 5, 21] [100, 101, 102] ⟨[(3, (.ptr 100 0)), (4, (.ptr 101 0)), (5, (.ptr 102 0)), (21, (.d t4 true))], [(100, (.box (.vcons (.d t55 a0) .vnil))), (101, (.box (.vcons (.d t28 a1) .vnil))), (102, (.box (.vcons (.d t28 a2) .vnil)))]⟩ [(decide (a0.2.2.1 ≤ a0.1)) = true] (by kernel_rfl) (by kernel_rfl) ⟨hb0, trivial⟩ ?_
    refine Run.condN true (by kernel_rfl) (fun hb => ?_) (fun hb => (by cases hb))
    refine Run.regN hX [] 300 [6] [] ⟨[(6, (.d t4 false))], []⟩ [] (by kernel_rfl) (by kernel_rfl) trivial ?_
    refine Run.retN (by kernel_rfl) ?_
    replace h := Option.some.inj h
    subst h
    exact ⟨[(.d t4 false)], by kernel_rfl, by kernel_rfl⟩
  · refine Run.regN hX [(5, .b false)] 200 [3, 4, 5, 21] [100, 101, 102] ⟨[(3, (.ptr 100 0)), (4, (.ptr 101 0)), (5, (.ptr 102 0)), (21, (.d t4 (decide (a0.2.2.2.1 ≤ a0.2.1))))], [(100, (.box (.vcons (.d t55 a0) .vnil))), (101, (.box (.vcons (.d t28 a1) .vnil))), (102, (.box (.vcons (.d t28 a2) .vnil)))]⟩ [(decide (a0.2.2.1 ≤ a0.1)) = false] (by kernel_rfl) (by kernel_rfl) ⟨hb0, trivial⟩ ?_
    refine Run.condN (decide (a0.2.2.2.1 ≤ a0.2.1)) (by kernel_rfl) (fun hb => ?_) (fun hb => ?_)
    · replace h := bif_t h hb
      refine Run.regN hX [] 300 [6] [] ⟨[(6, (.d t4 false))], []⟩ [] (by kernel_rfl) (by kernel_rfl) trivial ?_
      refine Run.retN (by kernel_rfl) ?_
      replace h := Option.some.inj h
      subst h
      exact ⟨[(.d t4 false)], by kernel_rfl, by kernel_rfl⟩
    · replace h := bif_f h hb
      refine Run.skipN (by kernel_rfl) ?_
      show Run Pg 58 _ _ _
      refine Run.regN hX [] 400 [3, 4, 5, 7, 8] [100, 101, 102, 402, 403] ⟨[(3, (.ptr 100 0)), (4, (.ptr 101 0)), (5, (.ptr 102 0)), (7, (.ptr 402 0)), (8, (.ptr 403 0))], [(100, (.box (.vcons (.d t55 a0) .vnil))), (101, (.box (.vcons (.d t28 a1) .vnil))), (102, (.box (.vcons (.d t28 a2) .vnil))), (402, (.box (.vcons (.d t28 ((0 : Int), (1 : Int))) .vnil))), (403, (.box (.vcons (.d t28 ((1 : Int), (1 : Int))) .vnil)))]⟩ [] (by kernel_rfl) (by kernel_rfl) trivial ?_
      refine Run.regN hX [] 500 [3, 4, 5, 7, 8, 9] [100, 101, 102, 402, 403] ⟨[(3, (.ptr 100 0)), (4, (.ptr 101 0)), (5, (.ptr 102 0)), (7, (.ptr 402 0)), (8, (.ptr 403 0)), (9, (.fn 43 .vnil (.vcons (.ptr 402 0) (.vcons (.ptr 403 0) .vnil))))], [(100, (.box (.vcons (.d t55 a0) .vnil))), (101, (.box (.vcons (.d t28 a1) .vnil))), (102, (.box (.vcons (.d t28 a2) .vnil))), (402, (.box (.vcons (.d t28 ((0 : Int), (1 : Int))) .vnil))), (403, (.box (.vcons (.d t28 ((1 : Int), (1 : Int))) .vnil)))]⟩ [] (by kernel_rfl) (by kernel_rfl) trivial ?_
      refine Run.seqN (by kernel_rfl) ?_
      obtain ⟨y1, h_y1, h⟩ := bnd_elim h
      rcases bif_elim h with ⟨hb4, h⟩ | ⟨hb4, h⟩
      · refine Run.regN hX [(12, .callS [(1000000, (.box (.vcons (.d t28 ((0 : Int), (1 : Int))) .vnil))), (1000001, (.box (.vcons (.d t28 ((1 : Int), (1 : Int))) .vnil)))] [(.d t2 a1.1), (.d t2 (wrapI .i64 (a2.1 - a1.1))), (.d t2 a0.1), (.d t2 a0.2.2.1), (.ptr 1000000 0), (.ptr 1000001 0)] [(1000000, 402), (1000001, 403)] (.d t4 y1.1) [(1000000, (.box (.vcons (.d t28 y1.2.1) .vnil))), (1000001, (.box (.vcons (.d t28 y1.2.2) .vnil)))]), (14, .b true)] 600 [7, 8, 54] [402, 403] ⟨[(7, (.ptr 402 0)), (8, (.ptr 403 0)), (54, (.d t4 true))], [(402, (.box (.vcons (.d t28 y1.2.1) .vnil))), (403, (.box (.vcons (.d t28 y1.2.2) .vnil)))]⟩ [(([(.d t2 a1.1), (.d t2 (wrapI .i64 (a2.1 - a1.1))), (.d t2 a0.1), (.d t2 a0.2.2.1), (.ptr 402 0), (.ptr 403 0)] : List V) = List.map (V.ren (renL [(1000000, 402), (1000001, 403)] 612)) [(.d t2 a1.1), (.d t2 (wrapI .i64 (a2.1 - a1.1))), (.d t2 a0.1), (.d t2 a0.2.2.1), (.ptr 1000000 0), (.ptr 1000001 0)]), CallSt Pg 43 [(.d t2 a1.1), (.d t2 (wrapI .i64 (a2.1 - a1.1))), (.d t2 a0.1), (.d t2 a0.2.2.1), (.ptr 1000000 0), (.ptr 1000001 0)] [(1000000, (.box (.vcons (.d t28 ((0 : Int), (1 : Int))) .vnil))), (1000001, (.box (.vcons (.d t28 ((1 : Int), (1 : Int))) .vnil)))] (.d t4 y1.1) [(1000000, (.box (.vcons (.d t28 y1.2.1) .vnil))), (1000001, (.box (.vcons (.d t28 y1.2.2) .vnil)))], ((some (.box (.vcons (.d t28 ((0 : Int), (1 : Int))) .vnil)) : Option E) = some (E.ren (renL [(1000000, 402), (1000001, 403)] 612) (.box (.vcons (.d t28 ((0 : Int), (1 : Int))) .vnil)))), ((some (.box (.vcons (.d t28 ((1 : Int), (1 : Int))) .vnil)) : Option E) = some (E.ren (renL [(1000000, 402), (1000001, 403)] 612) (.box (.vcons (.d t28 ((1 : Int), (1 : Int))) .vnil)))), (!y1.1) = true] (by kernel_rfl) (by kernel_rfl) ⟨(by kernel_rfl), (c43s0 h_y1), (by kernel_rfl), (by kernel_rfl), hb4, trivial⟩ ?_
        refine Run.condN true (by kernel_rfl) (fun hb => ?_) (fun hb => (by cases hb))
        refine Run.regN hX [] 700 [6] [] ⟨[(6, (.d t4 false))], []⟩ [] (by kernel_rfl) (by kernel_rfl) trivial ?_
        refine Run.retN (by kernel_rfl) ?_
        replace h := Option.some.inj h
        subst h
        exact ⟨[(.d t4 false)], by kernel_rfl, by kernel_rfl⟩
      · obtain ⟨y2, h_y2, h⟩ := bnd_elim h
        refine Run.regN hX [(12, .callS [(1000000, (.box (.vcons (.d t28 ((0 : Int), (1 : Int))) .vnil))), (1000001, (.box (.vcons (.d t28 ((1 : Int), (1 : Int))) .vnil)))] [(.d t2 a1.1), (.d t2 (wrapI .i64 (a2.1 - a1.1))), (.d t2 a0.1), (.d t2 a0.2.2.1), (.ptr 1000000 0), (.ptr 1000001 0)] [(1000000, 402), (1000001, 403)] (.d t4 y1.1) [(1000000, (.box (.vcons (.d t28 y1.2.1) .vnil))), (1000001, (.box (.vcons (.d t28 y1.2.2) .vnil)))]), (14, .b false), (27, .callS [(1000000, (.box (.vcons (.d t28 y1.2.1) .vnil))), (1000001, (.box (.vcons (.d t28 y1.2.2) .vnil)))] [(.d t2 a1.2), (.d t2 (wrapI .i64 (a2.2 - a1.2))), (.d t2 a0.2.1), (.d t2 a0.2.2.2.1), (.ptr 1000000 0), (.ptr 1000001 0)] [(1000000, 402), (1000001, 403)] (.d t4 y2.1) [(1000000, (.box (.vcons (.d t28 y2.2.1) .vnil))), (1000001, (.box (.vcons (.d t28 y2.2.2) .vnil)))])] 600 [7, 8, 54] [402, 403] ⟨[(7, (.ptr 402 0)), (8, (.ptr 403 0)), (54, (.d t4 (!y2.1)))], [(402, (.box (.vcons (.d t28 y2.2.1) .vnil))), (403, (.box (.vcons (.d t28 y2.2.2) .vnil)))]⟩ [(([(.d t2 a1.1), (.d t2 (wrapI .i64 (a2.1 - a1.1))), (.d t2 a0.1), (.d t2 a0.2.2.1), (.ptr 402 0), (.ptr 403 0)] : List V) = List.map (V.ren (renL [(1000000, 402), (1000001, 403)] 612)) [(.d t2 a1.1), (.d t2 (wrapI .i64 (a2.1 - a1.1))), (.d t2 a0.1), (.d t2 a0.2.2.1), (.ptr 1000000 0), (.ptr 1000001 0)]), CallSt Pg 43 [(.d t2 a1.1), (.d t2 (wrapI .i64 (a2.1 - a1.1))), (.d t2 a0.1), (.d t2 a0.2.2.1), (.ptr 1000000 0), (.ptr 1000001 0)] [(1000000, (.box (.vcons (.d t28 ((0 : Int), (1 : Int))) .vnil))), (1000001, (.box (.vcons (.d t28 ((1 : Int), (1 : Int))) .vnil)))] (.d t4 y1.1) [(1000000, (.box (.vcons (.d t28 y1.2.1) .vnil))), (1000001, (.box (.vcons (.d t28 y1.2.2) .vnil)))], ((some (.box (.vcons (.d t28 ((0 : Int), (1 : Int))) .vnil)) : Option E) = some (E.ren (renL [(1000000, 402), (1000001, 403)] 612) (.box (.vcons (.d t28 ((0 : Int), (1 : Int))) .vnil)))), ((some (.box (.vcons (.d t28 ((1 : Int), (1 : Int))) .vnil)) : Option E) = some (E.ren (renL [(1000000, 402), (1000001, 403)] 612) (.box (.vcons (.d t28 ((1 : Int), (1 : Int))) .vnil)))), (!y1.1) = false, (([(.d t2 a1.2), (.d t2 (wrapI .i64 (a2.2 - a1.2))), (.d t2 a0.2.1), (.d t2 a0.2.2.2.1), (.ptr 402 0), (.ptr 403 0)] : List V) = List.map (V.ren (renL [(1000000, 402), (1000001, 403)] 627)) [(.d t2 a1.2), (.d t2 (wrapI .i64 (a2.2 - a1.2))), (.d t2 a0.2.1), (.d t2 a0.2.2.2.1), (.ptr 1000000 0), (.ptr 1000001 0)]), CallSt Pg 43 [(.d t2 a1.2), (.d t2 (wrapI .i64 (a2.2 - a1.2))), (.d t2 a0.2.1), (.d t2 a0.2.2.2.1), (.ptr 1000000 0), (.ptr 1000001 0)] [(1000000, (.box (.vcons (.d t28 y1.2.1) .vnil))), (1000001, (.box (.vcons (.d t28 y1.2.2) .vnil)))] (.d t4 y2.1) [(1000000, (.box (.vcons (.d t28 y2.2.1) .vnil))), (1000001, (.box (.vcons (.d t28 y2.2.2) .vnil)))], ((some (.box (.vcons (.d t28 y1.2.1) .vnil)) : Option E) = some (E.ren (renL [(1000000, 402), (1000001, 403)] 627) (.box (.vcons (.d t28 y1.2.1) .vnil)))), ((some (.box (.vcons (.d t28 y1.2.2) .vnil)) : Option E) = some (E.ren (renL [(1000000, 402), (1000001, 403)] 627) (.box (.vcons (.d t28 y1.2.2) .vnil))))] (by kernel_rfl) (by kernel_rfl) ⟨(by kernel_rfl), (c43s0 h_y1), (by kernel_rfl), (by kernel_rfl), hb4, (by kernel_rfl), (c43s0 h_y2), (by kernel_rfl), (by kernel_rfl), trivial⟩ ?_
        refine Run.condN (!y2.1) (by kernel_rfl) (fun hb => ?_) (fun hb => ?_)
        · replace h := bif_t h hb
          refine Run.regN hX [] 700 [6] [] ⟨[(6, (.d t4 false))], []⟩ [] (by kernel_rfl) (by kernel_rfl) trivial ?_
          refine Run.retN (by kernel_rfl) ?_
          replace h := Option.some.inj h
          subst h
          exact ⟨[(.d t4 false)], by kernel_rfl, by kernel_rfl⟩
        · replace h := bif_f h hb
          refine Run.skipN (by kernel_rfl) ?_
          show Run Pg 58 _ _ _
          obtain ⟨y3, h_y3, h⟩ := bnd_elim h
          refine Run.regN hX [(2, .call (.d t4 y3))] 800 [6] [] ⟨[(6, (.d t4 y3))], []⟩ [CallPure Pg 46 [(.d t28 y2.2.1), (.d t28 y2.2.2)] (.d t4 y3)] (by kernel_rfl) (by kernel_rfl) ⟨(c46 h_y3), trivial⟩ ?_
          refine Run.retN (by kernel_rfl) ?_
          replace h := Option.some.inj h
          subst h
          exact ⟨[(.d t4 y3)], by kernel_rfl, by kernel_rfl⟩

/-! ## f38 -/

noncomputable def c_38 : Code := body0 Go.Proofs.Try.f38

def fin38s0 (a1 : Int × Int) (a2 : Int × Int) (r : Bool) : Ex → St → Prop := endS X0 [.tmp 4] [4] (.d t4 r) [(1000000, (.box (.vcons (.d t28 a1) .vnil))), (1000001, (.box (.vcons (.d t28 a2) .vnil)))]

def F38s0 (a0 : Int × Int × Int × Int × Int) (a1 : Int × Int) (a2 : Int × Int) : Option (Bool) :=
  (F21 a0 a1 a2).bind fun y1 =>
  some y1

theorem c38s0 {a0 : Int × Int × Int × Int × Int} {a1 : Int × Int} {a2 : Int × Int} {r : Bool} (h : F38s0 a0 a1 a2 = some r) : CallSt Pg 38 [(.d t55 a0), (.ptr 1000000 0), (.ptr 1000001 0)] [(1000000, (.box (.vcons (.d t28 a1) .vnil))), (1000001, (.box (.vcons (.d t28 a2) .vnil)))] (.d t4 r) [(1000000, (.box (.vcons (.d t28 a1) .vnil))), (1000001, (.box (.vcons (.d t28 a2) .vnil)))] := by
  refine callStN hX c_38 9 [.tmp 4] [4] Go.Proofs.Try.func38 (by kernel_rfl) (by kernel_rfl) (by kernel_rfl) (Nat.le_of_ble_eq_true rfl) rfl ?_
  show Run Pg 9 c_38 ⟨[(0, (.d t55 a0)), (1, (.ptr 1000000 0)), (2, (.ptr 1000001 0))], [(1000000, (.box (.vcons (.d t28 a1) .vnil))), (1000001, (.box (.vcons (.d t28 a2) .vnil)))]⟩ (fin38s0 a1 a2 r)
  unfold F38s0 at h
  refine Run.regN hX [] 100 [1, 2, 3] [100, 1000000, 1000001] ⟨[(1, (.ptr 1000000 0)), (2, (.ptr 1000001 0)), (3, (.ptr 100 0))], [(100, (.box (.vcons (.d t55 a0) .vnil))), (1000000, (.box (.vcons (.d t28 a1) .vnil))), (1000001, (.box (.vcons (.d t28 a2) .vnil)))]⟩ [] (by kernel_rfl) (by kernel_rfl) trivial ?_
  obtain ⟨y1, h_y1, h⟩ := bnd_elim h
  refine Run.regN hX [(3, .call (.d t4 y1))] 200 [4] [1000000, 1000001] ⟨[(4, (.d t4 y1))], [(1000000, (.box (.vcons (.d t28 a1) .vnil))), (1000001, (.box (.vcons (.d t28 a2) .vnil)))]⟩ [CallPure Pg 21 [(.d t55 a0), (.d t28 a1), (.d t28 a2)] (.d t4 y1)] (by kernel_rfl) (by kernel_rfl) ⟨(c21 h_y1), trivial⟩ ?_
  refine Run.retN (by kernel_rfl) ?_
  replace h := Option.some.inj h
  subst h
  exact ⟨[(.d t4 y1)], ⟨[], [(1000000, (.box (.vcons (.d t28 a1) .vnil))), (1000001, (.box (.vcons (.d t28 a2) .vnil)))]⟩, by kernel_rfl, by kernel_rfl, by kernel_rfl, by kernel_rfl⟩

/-! ## f55 -/

def fin55s2 (a1 : Int × Int) (a2 : Int × Int) (r : Int × (Int × Int) × (Int × Int)) : Ex → St → Prop := endS X0 [.tmp 4] [3] (.d t2 r.1) [(1000000, (.box (.vcons (.d t28 r.2.1) .vnil))), (1000001, (.box (.vcons (.d t28 r.2.2) .vnil)))]

def f55s2_l0_post (a1 : Int × Int) (a2 : Int × Int) (x1 : List (Int × Int × Int × Int × Int)) (x2 : Int) (x4 : Int × Int) (x5 : Int × Int) : ((Unit) ⊕ (Int × (Int × Int) × (Int × Int))) → Ex → St → Prop
  | .inl o, x, s => x = .out 0 ∧ s = ⟨[], [(1000000, (.box (.vcons (.d t28 x4) .vnil))), (1000001, (.box (.vcons (.d t28 x5) .vnil)))]⟩
  | .inr o, x, s => x = .ret ∧ fin55s2 a1 a2 o x s

def f55s2_l0_b (x1 : List (Int × Int × Int × Int × Int)) (x2 : Int) (x4 : Int × Int) (x5 : Int × Int) (again : Int → Option ((Unit) ⊕ (Int × (Int × Int) × (Int × Int)))) : Int → Option ((Unit) ⊕ (Int × (Int × Int) × (Int × Int)))
  | x3 =>
    (bif (decide (x3 < x2)) then
      gd (0 ≤ x3) <|
      gd (x3 < ((List.length x1 : Nat) : Int)) <|
      (F38s0 (List.getD x1 (toN x3) ((0 : Int), (0 : Int), (0 : Int), (0 : Int), (0 : Int))) x4 x5).bind fun y7 =>
      (bif y7 then
        some (.inr (x3, x4, x5))
      else
        again (wrapI .i64 (x3 + (1 : Int))))
    else
      some (.inl ()))

def f55s2_l0 (x1 : List (Int × Int × Int × Int × Int)) (x2 : Int) (x4 : Int × Int) (x5 : Int × Int) : Nat → Int → Option ((Unit) ⊕ (Int × (Int × Int) × (Int × Int))) := loopF (f55s2_l0_b x1 x2 x4 x5)

theorem f55s2_l0_ok (a1 : Int × Int) (a2 : Int × Int) (x1 : List (Int × Int × Int × Int × Int)) (x2 : Int) (x4 : Int × Int) (x5 : Int × Int) (k : Nat) (x3 : Int) {out : ((Unit) ⊕ (Int × (Int × Int) × (Int × Int)))} (h : f55s2_l0 x1 x2 x4 x5 k x3 = some out) : Run Pg 19 (bk1 (sq2 (sq1 (sq2 c_55)))) ⟨[(0, (.d t22 x1)), (1, (.fn 38 .vnil (.vcons (.ptr 1000000 0) (.vcons (.ptr 1000001 0) .vnil)))), (7, (.d t2 x2)), (8, (.d t2 x3))], [(1000000, (.box (.vcons (.d t28 x4) .vnil))), (1000001, (.box (.vcons (.d t28 x5) .vnil)))]⟩ (f55s2_l0_post a1 a2 x1 x2 x4 x5 out) := by
  refine Run.loopN (by kernel_rfl) (fun m s => ∃ x3, s = ⟨[(0, (.d t22 x1)), (1, (.fn 38 .vnil (.vcons (.ptr 1000000 0) (.vcons (.ptr 1000001 0) .vnil)))), (7, (.d t2 x2)), (8, (.d t2 x3))], [(1000000, (.box (.vcons (.d t28 x4) .vnil))), (1000001, (.box (.vcons (.d t28 x5) .vnil)))]⟩ ∧ f55s2_l0 x1 x2 x4 x5 m x3 = some out) ?_ k ⟨x3,  rfl, h⟩
  rintro m s ⟨x3,  rfl, h⟩
  cases m with
  | zero => cases h
  | succ m =>
  replace h : f55s2_l0_b x1 x2 x4 x5 (f55s2_l0 x1 x2 x4 x5 m) x3 = some out := h
  unfold f55s2_l0_b at h
  refine Run.regN hX [] 300 [0, 1, 7, 8, 9] [1000000, 1000001] ⟨[(0, (.d t22 x1)), (1, (.fn 38 .vnil (.vcons (.ptr 1000000 0) (.vcons (.ptr 1000001 0) .vnil)))), (7, (.d t2 x2)), (8, (.d t2 x3)), (9, (.d t4 (decide (x3 < x2))))], [(1000000, (.box (.vcons (.d t28 x4) .vnil))), (1000001, (.box (.vcons (.d t28 x5) .vnil)))]⟩ [] (by kernel_rfl) (by kernel_rfl) trivial ?_
  refine Run.seqN (by kernel_rfl) ?_
  refine Run.condN (decide (x3 < x2)) (by kernel_rfl) (fun hb => ?_) (fun hb => ?_)
  · replace h := bif_t h hb
    refine Run.skipN (by kernel_rfl) ?_
    show Run Pg 19 _ _ _
    refine Run.seqN (by kernel_rfl) ?_
    refine Run.blockN 1 (by kernel_rfl) ?_
    refine Run.regN hX [] 400 [0, 1, 5, 7, 8] [1000000, 1000001] ⟨[(0, (.d t22 x1)), (1, (.fn 38 .vnil (.vcons (.ptr 1000000 0) (.vcons (.ptr 1000001 0) .vnil)))), (5, (.d t2 x3)), (7, (.d t2 x2)), (8, (.d t2 x3))], [(1000000, (.box (.vcons (.d t28 x4) .vnil))), (1000001, (.box (.vcons (.d t28 x5) .vnil)))]⟩ [] (by kernel_rfl) (by kernel_rfl) trivial ?_
    obtain ⟨g_0, h⟩ := gd_elim h
    obtain ⟨g_1, h⟩ := gd_elim h
    obtain ⟨y7, h_y7, h⟩ := bnd_elim h
    refine Run.regN hX [(5, .callS [(1000000, (.box (.vcons (.d t28 x4) .vnil))), (1000001, (.box (.vcons (.d t28 x5) .vnil)))] [(.d t55 (List.getD x1 (toN x3) ((0 : Int), (0 : Int), (0 : Int), (0 : Int), (0 : Int)))), (.ptr 1000000 0), (.ptr 1000001 0)] [(1000000, 1000000), (1000001, 1000001)] (.d t4 y7) [(1000000, (.box (.vcons (.d t28 x4) .vnil))), (1000001, (.box (.vcons (.d t28 x5) .vnil)))])] 500 [0, 1, 5, 7, 8, 16] [1000000, 1000001] ⟨[(0, (.d t22 x1)), (1, (.fn 38 .vnil (.vcons (.ptr 1000000 0) (.vcons (.ptr 1000001 0) .vnil)))), (5, (.d t2 x3)), (7, (.d t2 x2)), (8, (.d t2 x3)), (16, (.d t4 y7))], [(1000000, (.box (.vcons (.d t28 x4) .vnil))), (1000001, (.box (.vcons (.d t28 x5) .vnil)))]⟩ [(0 ≤ x3), (x3 < ((List.length x1 : Nat) : Int)), (([(.d t55 (List.getD x1 (toN x3) ((0 : Int), (0 : Int), (0 : Int), (0 : Int), (0 : Int)))), (.ptr 1000000 0), (.ptr 1000001 0)] : List V) = List.map (V.ren (renL [(1000000, 1000000), (1000001, 1000001)] 505)) [(.d t55 (List.getD x1 (toN x3) ((0 : Int), (0 : Int), (0 : Int), (0 : Int), (0 : Int)))), (.ptr 1000000 0), (.ptr 1000001 0)]), CallSt Pg 38 [(.d t55 (List.getD x1 (toN x3) ((0 : Int), (0 : Int), (0 : Int), (0 : Int), (0 : Int)))), (.ptr 1000000 0), (.ptr 1000001 0)] [(1000000, (.box (.vcons (.d t28 x4) .vnil))), (1000001, (.box (.vcons (.d t28 x5) .vnil)))] (.d t4 y7) [(1000000, (.box (.vcons (.d t28 x4) .vnil))), (1000001, (.box (.vcons (.d t28 x5) .vnil)))], ((some (.box (.vcons (.d t28 x4) .vnil)) : Option E) = some (E.ren (renL [(1000000, 1000000), (1000001, 1000001)] 505) (.box (.vcons (.d t28 x4) .vnil)))), ((some (.box (.vcons (.d t28 x5) .vnil)) : Option E) = some (E.ren (renL [(1000000, 1000000), (1000001, 1000001)] 505) (.box (.vcons (.d t28 x5) .vnil))))] (by kernel_rfl) (by kernel_rfl) ⟨g_0, g_1, (by kernel_rfl), (c38s0 h_y7), (by kernel_rfl), (by kernel_rfl), trivial⟩ ?_
    refine Run.condN y7 (by kernel_rfl) (fun hb => ?_) (fun hb => ?_)
    · replace h := bif_t h hb
      refine Run.regN hX [] 600 [4] [1000000, 1000001] ⟨[(4, (.d t2 x3))], [(1000000, (.box (.vcons (.d t28 x4) .vnil))), (1000001, (.box (.vcons (.d t28 x5) .vnil)))]⟩ [] (by kernel_rfl) (by kernel_rfl) trivial ?_
      refine Run.retN (by kernel_rfl) ?_
      replace h := Option.some.inj h
      subst h
      exact ⟨rfl, [(.d t2 x3)], ⟨[], [(1000000, (.box (.vcons (.d t28 x4) .vnil))), (1000001, (.box (.vcons (.d t28 x5) .vnil)))]⟩, by kernel_rfl, by kernel_rfl, by kernel_rfl, by kernel_rfl⟩
    · replace h := bif_f h hb
      refine Run.skipN (by kernel_rfl) ?_
      show Run Pg 19 _ _ _
      refine Run.regE hX [] 700 [0, 1, 7, 8] [1000000, 1000001] ⟨[(0, (.d t22 x1)), (1, (.fn 38 .vnil (.vcons (.ptr 1000000 0) (.vcons (.ptr 1000001 0) .vnil)))), (7, (.d t2 x2)), (8, (.d t2 (wrapI .i64 (x3 + (1 : Int)))))], [(1000000, (.box (.vcons (.d t28 x4) .vnil))), (1000001, (.box (.vcons (.d t28 x5) .vnil)))]⟩ [] (by kernel_rfl) trivial ?_
      exact ⟨m, Nat.lt_succ_self m, _, rfl, h⟩
  · replace h := bif_f h hb
    refine Run.keep (s' := ⟨[], [(1000000, (.box (.vcons (.d t28 x4) .vnil))), (1000001, (.box (.vcons (.d t28 x5) .vnil)))]⟩) [] [1000000, 1000001] (by kernel_rfl) ?_
    refine Run.exitN 0 (by kernel_rfl) ?_
    replace h := Option.some.inj h
    subst h
    exact ⟨rfl, by kernel_rfl⟩

def F55s2 (a0 : List (Int × Int × Int × Int × Int)) (a1 : Int × Int) (a2 : Int × Int) : Option (Int × (Int × Int) × (Int × Int)) :=
  ((f55s2_l0 a0 (ofN (List.length a0)) a1 a2 (2 + List.length a0) (0 : Int)).bind fun o8 => match o8 with
    | .inl o9 =>
        some ((-1 : Int), a1, a2)
    | .inr o10 =>
        some o10)

theorem c55s2 {a0 : List (Int × Int × Int × Int × Int)} {a1 : Int × Int} {a2 : Int × Int} {r : Int × (Int × Int) × (Int × Int)} (h : F55s2 a0 a1 a2 = some r) : CallSt Pg 55 [(.d t22 a0), (.fn 38 .vnil (.vcons (.ptr 1000000 0) (.vcons (.ptr 1000001 0) .vnil)))] [(1000000, (.box (.vcons (.d t28 a1) .vnil))), (1000001, (.box (.vcons (.d t28 a2) .vnil)))] (.d t2 r.1) [(1000000, (.box (.vcons (.d t28 r.2.1) .vnil))), (1000001, (.box (.vcons (.d t28 r.2.2) .vnil)))] := by
  refine callStN hX c_55 19 [.tmp 4] [3] Go.Proofs.Try.func55 (by kernel_rfl) (by kernel_rfl) (by kernel_rfl) (Nat.le_of_ble_eq_true rfl) rfl ?_
  show Run Pg 19 c_55 ⟨[(0, (.d t22 a0)), (1, (.fn 38 .vnil (.vcons (.ptr 1000000 0) (.vcons (.ptr 1000001 0) .vnil))))], [(1000000, (.box (.vcons (.d t28 a1) .vnil))), (1000001, (.box (.vcons (.d t28 a2) .vnil)))]⟩ (fin55s2 a1 a2 r)
  unfold F55s2 at h
  refine Run.regN hX [] 100 [0, 1] [1000000, 1000001] ⟨[(0, (.d t22 a0)), (1, (.fn 38 .vnil (.vcons (.ptr 1000000 0) (.vcons (.ptr 1000001 0) .vnil))))], [(1000000, (.box (.vcons (.d t28 a1) .vnil))), (1000001, (.box (.vcons (.d t28 a2) .vnil)))]⟩ [] (by kernel_rfl) (by kernel_rfl) trivial ?_
  refine Run.seqN (by kernel_rfl) ?_
  refine Run.regN hX [] 200 [0, 1, 7, 8] [1000000, 1000001] ⟨[(0, (.d t22 a0)), (1, (.fn 38 .vnil (.vcons (.ptr 1000000 0) (.vcons (.ptr 1000001 0) .vnil)))), (7, (.d t2 (ofN (List.length a0)))), (8, (.d t2 (0 : Int)))], [(1000000, (.box (.vcons (.d t28 a1) .vnil))), (1000001, (.box (.vcons (.d t28 a2) .vnil)))]⟩ [] (by kernel_rfl) (by kernel_rfl) trivial ?_
  refine Run.blockN 0 (by kernel_rfl) ?_
  obtain ⟨o8, h_o8, h⟩ := bnd_elim h
  refine Run.mono (f55s2_l0_ok a1 a2 a0 (ofN (List.length a0)) a1 a2 _ (0 : Int) h_o8) ?_
  rcases o8 with o9 | o10
  · rintro x s ⟨hx, hs⟩
    subst hx
    subst hs
    show Run Pg 19 _ _ _
    refine Run.regN hX [] 800 [4] [1000000, 1000001] ⟨[(4, (.d t2 (-1 : Int)))], [(1000000, (.box (.vcons (.d t28 a1) .vnil))), (1000001, (.box (.vcons (.d t28 a2) .vnil)))]⟩ [] (by kernel_rfl) (by kernel_rfl) trivial ?_
    refine Run.retN (by kernel_rfl) ?_
    replace h := Option.some.inj h
    subst h
    exact ⟨[(.d t2 (-1 : Int))], ⟨[], [(1000000, (.box (.vcons (.d t28 a1) .vnil))), (1000001, (.box (.vcons (.d t28 a2) .vnil)))]⟩, by kernel_rfl, by kernel_rfl, by kernel_rfl, by kernel_rfl⟩
  · rintro x s ⟨hx, hr⟩
    subst hx
    replace h := Option.some.inj h
    subst h
    exact hr

/-! ## f34 -/

def fin34s2 (a1 : Int × Int) (a2 : Int × Int) (r : Bool × (Int × Int) × (Int × Int)) : Ex → St → Prop := endS X0 [.tmp 4] [4] (.d t4 r.1) [(1000000, (.box (.vcons (.d t28 r.2.1) .vnil))), (1000001, (.box (.vcons (.d t28 r.2.2) .vnil)))]

def F34s2 (a0 : List (Int × Int × Int × Int × Int)) (a1 : Int × Int) (a2 : Int × Int) : Option (Bool × (Int × Int) × (Int × Int)) :=
  (F55s2 a0 a1 a2).bind fun y1 =>
  some ((decide ((0 : Int) ≤ y1.1)), y1.2.1, y1.2.2)

theorem c34s2 {a0 : List (Int × Int × Int × Int × Int)} {a1 : Int × Int} {a2 : Int × Int} {r : Bool × (Int × Int) × (Int × Int)} (h : F34s2 a0 a1 a2 = some r) : CallSt Pg 34 [(.d t22 a0), (.fn 38 .vnil (.vcons (.ptr 1000000 0) (.vcons (.ptr 1000001 0) .vnil)))] [(1000000, (.box (.vcons (.d t28 a1) .vnil))), (1000001, (.box (.vcons (.d t28 a2) .vnil)))] (.d t4 r.1) [(1000000, (.box (.vcons (.d t28 r.2.1) .vnil))), (1000001, (.box (.vcons (.d t28 r.2.2) .vnil)))] := by
  refine callStN hX c_34 9 [.tmp 4] [4] Go.Proofs.Try.func34 (by kernel_rfl) (by kernel_rfl) (by kernel_rfl) (Nat.le_of_ble_eq_true rfl) rfl ?_
  show Run Pg 9 c_34 ⟨[(0, (.d t22 a0)), (1, (.fn 38 .vnil (.vcons (.ptr 1000000 0) (.vcons (.ptr 1000001 0) .vnil))))], [(1000000, (.box (.vcons (.d t28 a1) .vnil))), (1000001, (.box (.vcons (.d t28 a2) .vnil)))]⟩ (fin34s2 a1 a2 r)
  unfold F34s2 at h
  refine Run.regN hX [] 100 [0, 1] [1000000, 1000001] ⟨[(0, (.d t22 a0)), (1, (.fn 38 .vnil (.vcons (.ptr 1000000 0) (.vcons (.ptr 1000001 0) .vnil))))], [(1000000, (.box (.vcons (.d t28 a1) .vnil))), (1000001, (.box (.vcons (.d t28 a2) .vnil)))]⟩ [] (by kernel_rfl) (by kernel_rfl) trivial ?_
  obtain ⟨y1, h_y1, h⟩ := bnd_elim h
  refine Run.regN hX [(2, .callS [(1000000, (.box (.vcons (.d t28 a1) .vnil))), (1000001, (.box (.vcons (.d t28 a2) .vnil)))] [(.d t22 a0), (.fn 38 .vnil (.vcons (.ptr 1000000 0) (.vcons (.ptr 1000001 0) .vnil)))] [(1000000, 1000000), (1000001, 1000001)] (.d t2 y1.1) [(1000000, (.box (.vcons (.d t28 y1.2.1) .vnil))), (1000001, (.box (.vcons (.d t28 y1.2.2) .vnil)))])] 200 [4] [1000000, 1000001] ⟨[(4, (.d t4 (decide ((0 : Int) ≤ y1.1))))], [(1000000, (.box (.vcons (.d t28 y1.2.1) .vnil))), (1000001, (.box (.vcons (.d t28 y1.2.2) .vnil)))]⟩ [(([(.d t22 a0), (.fn 38 .vnil (.vcons (.ptr 1000000 0) (.vcons (.ptr 1000001 0) .vnil)))] : List V) = List.map (V.ren (renL [(1000000, 1000000), (1000001, 1000001)] 202)) [(.d t22 a0), (.fn 38 .vnil (.vcons (.ptr 1000000 0) (.vcons (.ptr 1000001 0) .vnil)))]), CallSt Pg 55 [(.d t22 a0), (.fn 38 .vnil (.vcons (.ptr 1000000 0) (.vcons (.ptr 1000001 0) .vnil)))] [(1000000, (.box (.vcons (.d t28 a1) .vnil))), (1000001, (.box (.vcons (.d t28 a2) .vnil)))] (.d t2 y1.1) [(1000000, (.box (.vcons (.d t28 y1.2.1) .vnil))), (1000001, (.box (.vcons (.d t28 y1.2.2) .vnil)))], ((some (.box (.vcons (.d t28 a1) .vnil)) : Option E) = some (E.ren (renL [(1000000, 1000000), (1000001, 1000001)] 202) (.box (.vcons (.d t28 a1) .vnil)))), ((some (.box (.vcons (.d t28 a2) .vnil)) : Option E) = some (E.ren (renL [(1000000, 1000000), (1000001, 1000001)] 202) (.box (.vcons (.d t28 a2) .vnil))))] (by kernel_rfl) (by kernel_rfl) ⟨(by kernel_rfl), (c55s2 h_y1), (by kernel_rfl), (by kernel_rfl), trivial⟩ ?_
  refine Run.retN (by kernel_rfl) ?_
  replace h := Option.some.inj h
  subst h
  exact ⟨[(.d t4 (decide ((0 : Int) ≤ y1.1)))], ⟨[], [(1000000, (.box (.vcons (.d t28 y1.2.1) .vnil))), (1000001, (.box (.vcons (.d t28 y1.2.2) .vnil)))]⟩, by kernel_rfl, by kernel_rfl, by kernel_rfl, by kernel_rfl⟩

/-! ## f37 -/

noncomputable def c_37 : Code := body0 Go.Proofs.Try.f37

def fin37s0 (a2 : List (Int × Int × Int × Int × Int)) (r : Bool) : Ex → St → Prop := endS X0 [.tmp 5] [4] (.d t4 r) [(1000000, (.box (.vcons (.d t22 a2) .vnil)))]

def F37s0 (a0 : Int × Int) (a1 : Int × Int) (a2 : List (Int × Int × Int × Int × Int)) : Option (Bool) :=
  (F34s2 a2 a0 a1).bind fun y1 =>
  some (!y1.1)

theorem c37s0 {a0 : Int × Int} {a1 : Int × Int} {a2 : List (Int × Int × Int × Int × Int)} {r : Bool} (h : F37s0 a0 a1 a2 = some r) : CallSt Pg 37 [(.d t28 a0), (.d t28 a1), (.ptr 1000000 0)] [(1000000, (.box (.vcons (.d t22 a2) .vnil)))] (.d t4 r) [(1000000, (.box (.vcons (.d t22 a2) .vnil)))] := by
  refine callStN hX c_37 10 [.tmp 5] [4] Go.Proofs.Try.func37 (by kernel_rfl) (by kernel_rfl) (by kernel_rfl) (Nat.le_of_ble_eq_true rfl) rfl ?_
  show Run Pg 10 c_37 ⟨[(0, (.d t28 a0)), (1, (.d t28 a1)), (2, (.ptr 1000000 0))], [(1000000, (.box (.vcons (.d t22 a2) .vnil)))]⟩ (fin37s0 a2 r)
  unfold F37s0 at h
  refine Run.regN hX [] 100 [2, 3, 4] [100, 101, 1000000] ⟨[(2, (.ptr 1000000 0)), (3, (.ptr 100 0)), (4, (.ptr 101 0))], [(100, (.box (.vcons (.d t28 a0) .vnil))), (101, (.box (.vcons (.d t28 a1) .vnil))), (1000000, (.box (.vcons (.d t22 a2) .vnil)))]⟩ [] (by kernel_rfl) (by kernel_rfl) trivial ?_
  obtain ⟨y1, h_y1, h⟩ := bnd_elim h
  refine Run.regN hX [(2, .callS [(1000000, (.box (.vcons (.d t28 a0) .vnil))), (1000001, (.box (.vcons (.d t28 a1) .vnil)))] [(.d t22 a2), (.fn 38 .vnil (.vcons (.ptr 1000000 0) (.vcons (.ptr 1000001 0) .vnil)))] [(1000000, 100), (1000001, 101)] (.d t4 y1.1) [(1000000, (.box (.vcons (.d t28 y1.2.1) .vnil))), (1000001, (.box (.vcons (.d t28 y1.2.2) .vnil)))])] 200 [5] [1000000] ⟨[(5, (.d t4 (!y1.1)))], [(1000000, (.box (.vcons (.d t22 a2) .vnil)))]⟩ [(([(.d t22 a2), (.fn 38 .vnil (.vcons (.ptr 100 0) (.vcons (.ptr 101 0) .vnil)))] : List V) = List.map (V.ren (renL [(1000000, 100), (1000001, 101)] 202)) [(.d t22 a2), (.fn 38 .vnil (.vcons (.ptr 1000000 0) (.vcons (.ptr 1000001 0) .vnil)))]), CallSt Pg 34 [(.d t22 a2), (.fn 38 .vnil (.vcons (.ptr 1000000 0) (.vcons (.ptr 1000001 0) .vnil)))] [(1000000, (.box (.vcons (.d t28 a0) .vnil))), (1000001, (.box (.vcons (.d t28 a1) .vnil)))] (.d t4 y1.1) [(1000000, (.box (.vcons (.d t28 y1.2.1) .vnil))), (1000001, (.box (.vcons (.d t28 y1.2.2) .vnil)))], ((some (.box (.vcons (.d t28 a0) .vnil)) : Option E) = some (E.ren (renL [(1000000, 100), (1000001, 101)] 202) (.box (.vcons (.d t28 a0) .vnil)))), ((some (.box (.vcons (.d t28 a1) .vnil)) : Option E) = some (E.ren (renL [(1000000, 100), (1000001, 101)] 202) (.box (.vcons (.d t28 a1) .vnil))))] (by kernel_rfl) (by kernel_rfl) ⟨(by kernel_rfl), (c34s2 h_y1), (by kernel_rfl), (by kernel_rfl), trivial⟩ ?_
  refine Run.retN (by kernel_rfl) ?_
  replace h := Option.some.inj h
  subst h
  exact ⟨[(.d t4 (!y1.1))], ⟨[], [(1000000, (.box (.vcons (.d t22 a2) .vnil)))]⟩, by kernel_rfl, by kernel_rfl, by kernel_rfl, by kernel_rfl⟩

/-! ## f42 -/

noncomputable def c_42 : Code := body0 Go.Proofs.Try.f42

def fin42 (r : Int) : Ex → St → Prop := endK X0 [.tmp 4] [2] (.d t2 r)

def F42 (a0 : Int × Int) (a1 : Int × Int) : Option (Int) :=
  some (max2i (max2i (max2i (wrapI .i64 (a0.1 - a1.1)) (wrapI .i64 (a1.1 - a0.1))) (wrapI .i64 (a0.2 - a1.2))) (wrapI .i64 (a1.2 - a0.2)))

theorem c42 {a0 : Int × Int} {a1 : Int × Int} {r : Int} (h : F42 a0 a1 = some r) : CallPure Pg 42 [(.d t28 a0), (.d t28 a1)] (.d t2 r) := by
  refine callPureN hX c_42 26 [.tmp 4] [2] Go.Proofs.Try.func42 (by kernel_rfl) (by kernel_rfl) (by kernel_rfl) (Nat.le_of_ble_eq_true rfl) rfl rfl ?_
  show Run Pg 26 c_42 ⟨[(0, (.d t28 a0)), (1, (.d t28 a1))], []⟩ (fin42 r)
  unfold F42 at h
  refine Run.regN hX [] 100 [2, 3] [100, 101] ⟨[(2, (.ptr 100 0)), (3, (.ptr 101 0))], [(100, (.box (.vcons (.d t28 a0) .vnil))), (101, (.box (.vcons (.d t28 a1) .vnil)))]⟩ [] (by kernel_rfl) (by kernel_rfl) trivial ?_
  refine Run.regN hX [] 200 [4] [] ⟨[(4, (.d t2 (max2i (max2i (max2i (wrapI .i64 (a0.1 - a1.1)) (wrapI .i64 (a1.1 - a0.1))) (wrapI .i64 (a0.2 - a1.2))) (wrapI .i64 (a1.2 - a0.2)))))], []⟩ [] (by kernel_rfl) (by kernel_rfl) trivial ?_
  refine Run.retN (by kernel_rfl) ?_
  replace h := Option.some.inj h
  subst h
  exact ⟨[(.d t2 (max2i (max2i (max2i (wrapI .i64 (a0.1 - a1.1)) (wrapI .i64 (a1.1 - a0.1))) (wrapI .i64 (a0.2 - a1.2))) (wrapI .i64 (a1.2 - a0.2))))], by kernel_rfl, by kernel_rfl⟩

/-! ## f56 -/

noncomputable def c_56 : Code := body0 Go.Proofs.Try.f56

def fin56s0 (a0 : List (Int × Int)) (r : (List (Int × Int))) : Ex → St → Prop := endS X0 [] [] (.tup .vnil) [(1000000, (.vec 38 t28 r))]

def f56s0_l0_post  : ((List (Int × Int))) → Ex → St → Prop
  | o, x, s => x = .out 0 ∧ s = ⟨[], [(1000000, (.vec 38 t28 o))]⟩

def f56s0_l0_b  (again : Int × Int × (List (Int × Int)) → Option ((List (Int × Int)))) : Int × Int × (List (Int × Int)) → Option ((List (Int × Int)))
  | (x1, x2, x3) =>
    (bif (decide (x1 < x2)) then
      gd (0 ≤ x2) <|
      gd (x2 < ((List.length x3 : Nat) : Int)) <|
      gd ((toN x2) < List.length x3) <|
      gd (0 ≤ x1) <|
      gd (x1 < ((List.length x3 : Nat) : Int)) <|
      gd ((toN x1) < List.length x3) <|
      gd (0 ≤ x1) <|
      gd (x1 < ((List.length x3 : Nat) : Int)) <|
      gd ((toN x1) < List.length x3) <|
      gd (0 ≤ x2) <|
      gd (x2 < ((List.length (List.set x3 (toN x1) (List.getD x3 (toN x2) ((0 : Int), (0 : Int)))) : Nat) : Int)) <|
      gd ((toN x2) < List.length (List.set x3 (toN x1) (List.getD x3 (toN x2) ((0 : Int), (0 : Int))))) <|
      again ((wrapI .i64 (x1 + (1 : Int))), (wrapI .i64 (x2 - (1 : Int))), (List.set (List.set x3 (toN x1) (List.getD x3 (toN x2) ((0 : Int), (0 : Int)))) (toN x2) (List.getD x3 (toN x1) ((0 : Int), (0 : Int)))))
    else
      some x3)

def f56s0_l0  : Nat → Int × Int × (List (Int × Int)) → Option ((List (Int × Int))) := loopF (f56s0_l0_b )

theorem f56s0_l0_ok  (k : Nat) (x1 : Int) (x2 : Int) (x3 : List (Int × Int)) {out : ((List (Int × Int)))} (h : f56s0_l0  k (x1, x2, x3) = some out) : Run Pg 28 (bk1 (sq2 c_56)) ⟨[(0, (.vec 1000000 t28)), (2, (.d t2 x1)), (3, (.d t2 x2))], [(1000000, (.vec 38 t28 x3))]⟩ (f56s0_l0_post  out) := by
  refine Run.loopN (by kernel_rfl) (fun m s => ∃ x1 x2 x3, s = ⟨[(0, (.vec 1000000 t28)), (2, (.d t2 x1)), (3, (.d t2 x2))], [(1000000, (.vec 38 t28 x3))]⟩ ∧ f56s0_l0  m (x1, x2, x3) = some out) ?_ k ⟨x1, x2, x3,  rfl, h⟩
  rintro m s ⟨x1, x2, x3,  rfl, h⟩
  cases m with
  | zero => cases h
  | succ m =>
  replace h : f56s0_l0_b  (f56s0_l0  m) (x1, x2, x3) = some out := h
  unfold f56s0_l0_b at h
  refine Run.seqN (by kernel_rfl) ?_
  refine Run.regN hX [] 200 [0, 2, 3, 9] [1000000] ⟨[(0, (.vec 1000000 t28)), (2, (.d t2 x1)), (3, (.d t2 x2)), (9, (.d t4 (decide (x1 < x2))))], [(1000000, (.vec 38 t28 x3))]⟩ [] (by kernel_rfl) (by kernel_rfl) trivial ?_
  refine Run.condN (decide (x1 < x2)) (by kernel_rfl) (fun hb => ?_) (fun hb => ?_)
  · replace h := bif_t h hb
    refine Run.skipN (by kernel_rfl) ?_
    show Run Pg 28 _ _ _
    refine Run.seqN (by kernel_rfl) ?_
    refine Run.blockN 1 (by kernel_rfl) ?_
    obtain ⟨g_0, h⟩ := gd_elim h
    obtain ⟨g_1, h⟩ := gd_elim h
    obtain ⟨g_2, h⟩ := gd_elim h
    obtain ⟨g_3, h⟩ := gd_elim h
    obtain ⟨g_4, h⟩ := gd_elim h
    obtain ⟨g_5, h⟩ := gd_elim h
    obtain ⟨g_6, h⟩ := gd_elim h
    obtain ⟨g_7, h⟩ := gd_elim h
    obtain ⟨g_8, h⟩ := gd_elim h
    obtain ⟨g_9, h⟩ := gd_elim h
    obtain ⟨g_10, h⟩ := gd_elim h
    obtain ⟨g_11, h⟩ := gd_elim h
    refine Run.regE hX [] 400 [0, 2, 3] [1000000] ⟨[(0, (.vec 1000000 t28)), (2, (.d t2 x1)), (3, (.d t2 x2))], [(1000000, (.vec 38 t28 (List.set (List.set x3 (toN x1) (List.getD x3 (toN x2) ((0 : Int), (0 : Int)))) (toN x2) (List.getD x3 (toN x1) ((0 : Int), (0 : Int))))))]⟩ [(0 ≤ x2), (x2 < ((List.length x3 : Nat) : Int)), ((toN x2) < List.length x3), (0 ≤ x1), (x1 < ((List.length x3 : Nat) : Int)), ((toN x1) < List.length x3), (0 ≤ x1), (x1 < ((List.length x3 : Nat) : Int)), ((toN x1) < List.length x3), (0 ≤ x2), (x2 < ((List.length (List.set x3 (toN x1) (List.getD x3 (toN x2) ((0 : Int), (0 : Int)))) : Nat) : Int)), ((toN x2) < List.length (List.set x3 (toN x1) (List.getD x3 (toN x2) ((0 : Int), (0 : Int)))))] (by kernel_rfl) ⟨g_0, g_1, g_2, g_3, g_4, g_5, g_6, g_7, g_8, g_9, g_10, g_11, trivial⟩ ?_
    show Run Pg 28 _ _ _
    refine Run.regE hX [] 300 [0, 2, 3] [1000000] ⟨[(0, (.vec 1000000 t28)), (2, (.d t2 (wrapI .i64 (x1 + (1 : Int))))), (3, (.d t2 (wrapI .i64 (x2 - (1 : Int)))))], [(1000000, (.vec 38 t28 (List.set (List.set x3 (toN x1) (List.getD x3 (toN x2) ((0 : Int), (0 : Int)))) (toN x2) (List.getD x3 (toN x1) ((0 : Int), (0 : Int))))))]⟩ [] (by kernel_rfl) trivial ?_
    exact ⟨m, Nat.lt_succ_self m, _, _, _, rfl, h⟩
  · replace h := bif_f h hb
    refine Run.keep (s' := ⟨[], [(1000000, (.vec 38 t28 x3))]⟩) [] [1000000] (by kernel_rfl) ?_
    refine Run.exitN 0 (by kernel_rfl) ?_
    replace h := Option.some.inj h
    subst h
    exact ⟨rfl, by kernel_rfl⟩

def F56s0 (a0 : List (Int × Int)) : Option ((List (Int × Int))) :=
  ((f56s0_l0  (2 + List.length a0) ((0 : Int), (wrapI .i64 ((ofN (List.length a0)) - (1 : Int))), a0)).bind fun o4 =>
    some o4)

theorem c56s0 {a0 : List (Int × Int)} {r : (List (Int × Int))} (h : F56s0 a0 = some r) : CallSt Pg 56 [(.vec 1000000 t28)] [(1000000, (.vec 38 t28 a0))] (.tup .vnil) [(1000000, (.vec 38 t28 r))] := by
  refine callStN hX c_56 28 [] [] Go.Proofs.Try.func56 (by kernel_rfl) (by kernel_rfl) (by kernel_rfl) (Nat.le_of_ble_eq_true rfl) rfl ?_
  show Run Pg 28 c_56 ⟨[(0, (.vec 1000000 t28))], [(1000000, (.vec 38 t28 a0))]⟩ (fin56s0 a0 r)
  unfold F56s0 at h
  refine Run.regN hX [] 100 [0, 2, 3] [1000000] ⟨[(0, (.vec 1000000 t28)), (2, (.d t2 (0 : Int))), (3, (.d t2 (wrapI .i64 ((ofN (List.length a0)) - (1 : Int)))))], [(1000000, (.vec 38 t28 a0))]⟩ [] (by kernel_rfl) (by kernel_rfl) trivial ?_
  refine Run.blockN 0 (by kernel_rfl) ?_
  obtain ⟨o4, h_o4, h⟩ := bnd_elim h
  refine Run.mono (f56s0_l0_ok  _ (0 : Int) (wrapI .i64 ((ofN (List.length a0)) - (1 : Int))) a0 h_o4) ?_
  rintro x s ⟨hx, hs⟩
  subst hx
  subst hs
  replace h := Option.some.inj h
  subst h
  exact ⟨[], ⟨[], [(1000000, (.vec 38 t28 o4))]⟩, by kernel_rfl, by kernel_rfl, by kernel_rfl, by kernel_rfl⟩

/-! ## f39 -/

noncomputable def c_39 : Code := body0 Go.Proofs.Try.f39

def fin39s0 (a1 : List (Int × Int × Int × Int × Int)) (r : (List (Int × Int)) × (List (Int × Int × Int × Int × Int))) : Ex → St → Prop := endS X0 [.tmp 4] [99999] (nilOr t28 r.1) [(1000000, (.box (.vcons (.d t22 r.2) .vnil)))]

def f39s0_l0_post (x1 : List (Int × Int)) (x2 : Int) (x5 : List Bool) (x6 : List (Int × Int × Int × Int × Int)) : ((List Int)) → Ex → St → Prop
  | o, x, s => x = .out 0 ∧ s = ⟨[(0, (.d t45 x1)), (1, (.fn 37 .vnil (.vcons (.ptr 1000000 0) .vnil))), (5, (.vec 202 t2)), (6, (.vec 302 t2)), (7, (.vec 402 t4))], [(202, (.vec 2 t2 o)), (302, (.vec 3 t2 o)), (402, (.vec 4 t4 x5)), (1000000, (.box (.vcons (.d t22 x6) .vnil)))]⟩

def f39s0_l0_b (x2 : Int) (again : Int × (List Int) → Option ((List Int))) : Int × (List Int) → Option ((List Int))
  | (x3, x4) =>
    (bif (decide (x3 < x2)) then
      gd (0 ≤ x3) <|
      gd (x3 < ((List.length x4 : Nat) : Int)) <|
      gd ((toN x3) < List.length x4) <|
      gd (0 ≤ x3) <|
      gd (x3 < ((List.length x4 : Nat) : Int)) <|
      gd ((toN x3) < List.length x4) <|
      again ((wrapI .i64 (x3 + (1 : Int))), (List.set x4 (toN x3) (-1 : Int)))
    else
      some x4)

def f39s0_l0 (x2 : Int) : Nat → Int × (List Int) → Option ((List Int)) := loopF (f39s0_l0_b x2)

theorem f39s0_l0_ok (x1 : List (Int × Int)) (x2 : Int) (x5 : List Bool) (x6 : List (Int × Int × Int × Int × Int)) (k : Nat) (x3 : Int) (x4 : List Int) {out : ((List Int))} (h : f39s0_l0 x2 k (x3, x4) = some out) : Run Pg 177 (bk1 (sq2 (sq1 (sq2 (sq2 (sq2 (sq2 c_39))))))) ⟨[(0, (.d t45 x1)), (1, (.fn 37 .vnil (.vcons (.ptr 1000000 0) .vnil))), (5, (.vec 202 t2)), (6, (.vec 302 t2)), (7, (.vec 402 t4)), (25, (.d t2 x2)), (26, (.d t2 x3))], [(202, (.vec 2 t2 x4)), (302, (.vec 3 t2 x4)), (402, (.vec 4 t4 x5)), (1000000, (.box (.vcons (.d t22 x6) .vnil)))]⟩ (f39s0_l0_post x1 x2 x5 x6 out) := by
  refine Run.loopN (by kernel_rfl) (fun m s => ∃ x3 x4, s = ⟨[(0, (.d t45 x1)), (1, (.fn 37 .vnil (.vcons (.ptr 1000000 0) .vnil))), (5, (.vec 202 t2)), (6, (.vec 302 t2)), (7, (.vec 402 t4)), (25, (.d t2 x2)), (26, (.d t2 x3))], [(202, (.vec 2 t2 x4)), (302, (.vec 3 t2 x4)), (402, (.vec 4 t4 x5)), (1000000, (.box (.vcons (.d t22 x6) .vnil)))]⟩ ∧ f39s0_l0 x2 m (x3, x4) = some out) ?_ k ⟨x3, x4,  rfl, h⟩
  rintro m s ⟨x3, x4,  rfl, h⟩
  cases m with
  | zero => cases h
  | succ m =>
  replace h : f39s0_l0_b x2 (f39s0_l0 x2 m) (x3, x4) = some out := h
  unfold f39s0_l0_b at h
  refine Run.regN hX [] 600 [0, 1, 5, 6, 7, 25, 26, 27] [202, 302, 402, 1000000] ⟨[(0, (.d t45 x1)), (1, (.fn 37 .vnil (.vcons (.ptr 1000000 0) .vnil))), (5, (.vec 202 t2)), (6, (.vec 302 t2)), (7, (.vec 402 t4)), (25, (.d t2 x2)), (26, (.d t2 x3)), (27, (.d t4 (decide (x3 < x2))))], [(202, (.vec 2 t2 x4)), (302, (.vec 3 t2 x4)), (402, (.vec 4 t4 x5)), (1000000, (.box (.vcons (.d t22 x6) .vnil)))]⟩ [] (by kernel_rfl) (by kernel_rfl) trivial ?_
  refine Run.seqN (by kernel_rfl) ?_
  refine Run.condN (decide (x3 < x2)) (by kernel_rfl) (fun hb => ?_) (fun hb => ?_)
  · replace h := bif_t h hb
    refine Run.skipN (by kernel_rfl) ?_
    show Run Pg 177 _ _ _
    refine Run.seqN (by kernel_rfl) ?_
    refine Run.blockN 1 (by kernel_rfl) ?_
    refine Run.regN hX [] 700 [0, 1, 5, 6, 7, 8, 25, 26] [202, 302, 402, 1000000] ⟨[(0, (.d t45 x1)), (1, (.fn 37 .vnil (.vcons (.ptr 1000000 0) .vnil))), (5, (.vec 202 t2)), (6, (.vec 302 t2)), (7, (.vec 402 t4)), (8, (.d t2 x3)), (25, (.d t2 x2)), (26, (.d t2 x3))], [(202, (.vec 2 t2 x4)), (302, (.vec 3 t2 x4)), (402, (.vec 4 t4 x5)), (1000000, (.box (.vcons (.d t22 x6) .vnil)))]⟩ [] (by kernel_rfl) (by kernel_rfl) trivial ?_
    obtain ⟨g_0, h⟩ := gd_elim h
    obtain ⟨g_1, h⟩ := gd_elim h
    obtain ⟨g_2, h⟩ := gd_elim h
    obtain ⟨g_3, h⟩ := gd_elim h
    obtain ⟨g_4, h⟩ := gd_elim h
    obtain ⟨g_5, h⟩ := gd_elim h
    refine Run.regE hX [] 800 [0, 1, 5, 6, 7, 25, 26] [202, 302, 402, 1000000] ⟨[(0, (.d t45 x1)), (1, (.fn 37 .vnil (.vcons (.ptr 1000000 0) .vnil))), (5, (.vec 202 t2)), (6, (.vec 302 t2)), (7, (.vec 402 t4)), (25, (.d t2 x2)), (26, (.d t2 x3))], [(202, (.vec 2 t2 (List.set x4 (toN x3) (-1 : Int)))), (302, (.vec 3 t2 (List.set x4 (toN x3) (-1 : Int)))), (402, (.vec 4 t4 x5)), (1000000, (.box (.vcons (.d t22 x6) .vnil)))]⟩ [(0 ≤ x3), (x3 < ((List.length x4 : Nat) : Int)), ((toN x3) < List.length x4), (0 ≤ x3), (x3 < ((List.length x4 : Nat) : Int)), ((toN x3) < List.length x4)] (by kernel_rfl) ⟨g_0, g_1, g_2, g_3, g_4, g_5, trivial⟩ ?_
    show Run Pg 177 _ _ _
    refine Run.regE hX [] 900 [0, 1, 5, 6, 7, 25, 26] [202, 302, 402, 1000000] ⟨[(0, (.d t45 x1)), (1, (.fn 37 .vnil (.vcons (.ptr 1000000 0) .vnil))), (5, (.vec 202 t2)), (6, (.vec 302 t2)), (7, (.vec 402 t4)), (25, (.d t2 x2)), (26, (.d t2 (wrapI .i64 (x3 + (1 : Int)))))], [(202, (.vec 2 t2 (List.set x4 (toN x3) (-1 : Int)))), (302, (.vec 3 t2 (List.set x4 (toN x3) (-1 : Int)))), (402, (.vec 4 t4 x5)), (1000000, (.box (.vcons (.d t22 x6) .vnil)))]⟩ [] (by kernel_rfl) trivial ?_
    exact ⟨m, Nat.lt_succ_self m, _, _, rfl, h⟩
  · replace h := bif_f h hb
    refine Run.keep (s' := ⟨[(0, (.d t45 x1)), (1, (.fn 37 .vnil (.vcons (.ptr 1000000 0) .vnil))), (5, (.vec 202 t2)), (6, (.vec 302 t2)), (7, (.vec 402 t4))], [(202, (.vec 2 t2 x4)), (302, (.vec 3 t2 x4)), (402, (.vec 4 t4 x5)), (1000000, (.box (.vcons (.d t22 x6) .vnil)))]⟩) [0, 1, 5, 6, 7] [202, 302, 402, 1000000] (by kernel_rfl) ?_
    refine Run.exitN 0 (by kernel_rfl) ?_
    replace h := Option.some.inj h
    subst h
    exact ⟨rfl, by kernel_rfl⟩

def f39s0_c3_post (x115 : List (Int × Int)) (x116 : Int) (x117 : Int) (x118 : Int) (x119 : Bool) (x120 : List Int) (x121 : List Int) (x122 : List Bool) (x123 : List (Int × Int × Int × Int × Int)) : (Int) → Ex → St → Prop
  | o, x, s => x = .nrm ∧ s = ⟨[(0, (.d t45 x115)), (1, (.fn 37 .vnil (.vcons (.ptr 1000000 0) .vnil))), (5, (.vec 202 t2)), (6, (.vec 302 t2)), (7, (.vec 402 t4)), (9, (.d t2 o)), (39, (.d t2 x118)), (40, (.d t2 x117))], [(202, (.vec 2 t2 x120)), (302, (.vec 3 t2 x121)), (402, (.vec 4 t4 x122)), (1000000, (.box (.vcons (.d t22 x123) .vnil)))]⟩

def f39s0_c3 (x116 : Int) (x117 : Int) (x119 : Bool) : Option (Int) :=
  (bif x119 then
    some x117
  else
    some x116)

theorem f39s0_c3_ok (x115 : List (Int × Int)) (x116 : Int) (x117 : Int) (x118 : Int) (x119 : Bool) (x120 : List Int) (x121 : List Int) (x122 : List Bool) (x123 : List (Int × Int × Int × Int × Int)) {out : (Int)} (h : f39s0_c3 x116 x117 x119 = some out) : Run Pg 177 (sq2 (sq2 (bk1 (sq1 (sq2 (sq2 (lp1 (bk1 (sq2 (sq1 (sq2 (bk1 (lp1 (bk1 (sq1 (sq2 (sq2 (sq2 (sq2 (sq2 (sq2 c_39))))))))))))))))))))) ⟨[(0, (.d t45 x115)), (1, (.fn 37 .vnil (.vcons (.ptr 1000000 0) .vnil))), (5, (.vec 202 t2)), (6, (.vec 302 t2)), (7, (.vec 402 t4)), (9, (.d t2 x116)), (10, (.d t2 x117)), (39, (.d t2 x118)), (40, (.d t2 x117)), (69, (.d t4 x119))], [(202, (.vec 2 t2 x120)), (302, (.vec 3 t2 x121)), (402, (.vec 4 t4 x122)), (1000000, (.box (.vcons (.d t22 x123) .vnil)))]⟩ (f39s0_c3_post x115 x116 x117 x118 x119 x120 x121 x122 x123 out) := by
  unfold f39s0_c3 at h
  refine Run.condN x119 (by kernel_rfl) (fun hb => ?_) (fun hb => ?_)
  · replace h := bif_t h hb
    refine Run.regE hX [] 1600 [0, 1, 5, 6, 7, 9, 39, 40] [202, 302, 402, 1000000] ⟨[(0, (.d t45 x115)), (1, (.fn 37 .vnil (.vcons (.ptr 1000000 0) .vnil))), (5, (.vec 202 t2)), (6, (.vec 302 t2)), (7, (.vec 402 t4)), (9, (.d t2 x117)), (39, (.d t2 x118)), (40, (.d t2 x117))], [(202, (.vec 2 t2 x120)), (302, (.vec 3 t2 x121)), (402, (.vec 4 t4 x122)), (1000000, (.box (.vcons (.d t22 x123) .vnil)))]⟩ [] (by kernel_rfl) trivial ?_
    replace h := Option.some.inj h
    subst h
    exact ⟨rfl, by kernel_rfl⟩
  · replace h := bif_f h hb
    refine Run.keep (s' := ⟨[(0, (.d t45 x115)), (1, (.fn 37 .vnil (.vcons (.ptr 1000000 0) .vnil))), (5, (.vec 202 t2)), (6, (.vec 302 t2)), (7, (.vec 402 t4)), (9, (.d t2 x116)), (39, (.d t2 x118)), (40, (.d t2 x117))], [(202, (.vec 2 t2 x120)), (302, (.vec 3 t2 x121)), (402, (.vec 4 t4 x122)), (1000000, (.box (.vcons (.d t22 x123) .vnil)))]⟩) [0, 1, 5, 6, 7, 9, 39, 40] [202, 302, 402, 1000000] (by kernel_rfl) ?_
    refine Run.skipN (by kernel_rfl) ?_
    replace h := Option.some.inj h
    subst h
    exact ⟨rfl, by kernel_rfl⟩

def f39s0_l2_post (x97 : List (Int × Int)) (x99 : Int) (x101 : List Int) (x102 : List Int) (x103 : List Bool) (x104 : List (Int × Int × Int × Int × Int)) : (Int) → Ex → St → Prop
  | o, x, s => x = .out 4 ∧ s = ⟨[(0, (.d t45 x97)), (1, (.fn 37 .vnil (.vcons (.ptr 1000000 0) .vnil))), (5, (.vec 202 t2)), (6, (.vec 302 t2)), (7, (.vec 402 t4)), (9, (.d t2 o))], [(202, (.vec 2 t2 x101)), (302, (.vec 3 t2 x102)), (402, (.vec 4 t4 x103)), (1000000, (.box (.vcons (.d t22 x104) .vnil)))]⟩

def f39s0_l2_b (x99 : Int) (x101 : List Int) (x103 : List Bool) (again : Int × Int → Option (Int)) : Int × Int → Option (Int)
  | (x98, x100) =>
    (bif (decide (x100 < x99)) then
      gd (0 ≤ x100) <|
      gd (x100 < ((List.length x103 : Nat) : Int)) <|
      gd ((toN x100) < List.length x103) <|
      (bif (!(List.getD x103 (toN x100) false)) then
        gd (0 ≤ x100) <|
        gd (x100 < ((List.length x101 : Nat) : Int)) <|
        gd ((toN x100) < List.length x101) <|
        (bif (decide ((0 : Int) ≤ (List.getD x101 (toN x100) (0 : Int)))) then
          (bif (decide (x98 < (0 : Int))) then
            again (x100, (wrapI .i64 (x100 + (1 : Int))))
          else
            gd (0 ≤ x100) <|
            gd (x100 < ((List.length x101 : Nat) : Int)) <|
            gd ((toN x100) < List.length x101) <|
            gd (0 ≤ x98) <|
            gd (x98 < ((List.length x101 : Nat) : Int)) <|
            gd ((toN x98) < List.length x101) <|
            ((f39s0_c3 x98 x100 (decide ((List.getD x101 (toN x100) (0 : Int)) < (List.getD x101 (toN x98) (0 : Int))))).bind fun o124 =>
              again (o124, (wrapI .i64 (x100 + (1 : Int))))))
        else
          again (x98, (wrapI .i64 (x100 + (1 : Int)))))
      else
        again (x98, (wrapI .i64 (x100 + (1 : Int)))))
    else
      some x98)

def f39s0_l2 (x99 : Int) (x101 : List Int) (x103 : List Bool) : Nat → Int × Int → Option (Int) := loopF (f39s0_l2_b x99 x101 x103)

theorem f39s0_l2_ok (x97 : List (Int × Int)) (x99 : Int) (x101 : List Int) (x102 : List Int) (x103 : List Bool) (x104 : List (Int × Int × Int × Int × Int)) (k : Nat) (x98 : Int) (x100 : Int) {out : (Int)} (h : f39s0_l2 x99 x101 x103 k (x98, x100) = some out) : Run Pg 177 (bk1 (sq2 (sq1 (sq2 (bk1 (lp1 (bk1 (sq1 (sq2 (sq2 (sq2 (sq2 (sq2 (sq2 c_39)))))))))))))) ⟨[(0, (.d t45 x97)), (1, (.fn 37 .vnil (.vcons (.ptr 1000000 0) .vnil))), (5, (.vec 202 t2)), (6, (.vec 302 t2)), (7, (.vec 402 t4)), (9, (.d t2 x98)), (39, (.d t2 x99)), (40, (.d t2 x100))], [(202, (.vec 2 t2 x101)), (302, (.vec 3 t2 x102)), (402, (.vec 4 t4 x103)), (1000000, (.box (.vcons (.d t22 x104) .vnil)))]⟩ (f39s0_l2_post x97 x99 x101 x102 x103 x104 out) := by
  refine Run.loopN (by kernel_rfl) (fun m s => ∃ x98 x100, s = ⟨[(0, (.d t45 x97)), (1, (.fn 37 .vnil (.vcons (.ptr 1000000 0) .vnil))), (5, (.vec 202 t2)), (6, (.vec 302 t2)), (7, (.vec 402 t4)), (9, (.d t2 x98)), (39, (.d t2 x99)), (40, (.d t2 x100))], [(202, (.vec 2 t2 x101)), (302, (.vec 3 t2 x102)), (402, (.vec 4 t4 x103)), (1000000, (.box (.vcons (.d t22 x104) .vnil)))]⟩ ∧ f39s0_l2 x99 x101 x103 m (x98, x100) = some out) ?_ k ⟨x98, x100,  rfl, h⟩
  rintro m s ⟨x98, x100,  rfl, h⟩
  cases m with
  | zero => cases h
  | succ m =>
  replace h : f39s0_l2_b x99 x101 x103 (f39s0_l2 x99 x101 x103 m) (x98, x100) = some out := h
  unfold f39s0_l2_b at h
  refine Run.regN hX [] 1300 [0, 1, 5, 6, 7, 9, 39, 40, 41] [202, 302, 402, 1000000] ⟨[(0, (.d t45 x97)), (1, (.fn 37 .vnil (.vcons (.ptr 1000000 0) .vnil))), (5, (.vec 202 t2)), (6, (.vec 302 t2)), (7, (.vec 402 t4)), (9, (.d t2 x98)), (39, (.d t2 x99)), (40, (.d t2 x100)), (41, (.d t4 (decide (x100 < x99))))], [(202, (.vec 2 t2 x101)), (302, (.vec 3 t2 x102)), (402, (.vec 4 t4 x103)), (1000000, (.box (.vcons (.d t22 x104) .vnil)))]⟩ [] (by kernel_rfl) (by kernel_rfl) trivial ?_
  refine Run.seqN (by kernel_rfl) ?_
  refine Run.condN (decide (x100 < x99)) (by kernel_rfl) (fun hb => ?_) (fun hb => ?_)
  · replace h := bif_t h hb
    refine Run.skipN (by kernel_rfl) ?_
    show Run Pg 177 _ _ _
    refine Run.seqN (by kernel_rfl) ?_
    refine Run.blockN 5 (by kernel_rfl) ?_
    refine Run.regN hX [] 1400 [0, 1, 5, 6, 7, 9, 10, 39, 40] [202, 302, 402, 1000000] ⟨[(0, (.d t45 x97)), (1, (.fn 37 .vnil (.vcons (.ptr 1000000 0) .vnil))), (5, (.vec 202 t2)), (6, (.vec 302 t2)), (7, (.vec 402 t4)), (9, (.d t2 x98)), (10, (.d t2 x100)), (39, (.d t2 x99)), (40, (.d t2 x100))], [(202, (.vec 2 t2 x101)), (302, (.vec 3 t2 x102)), (402, (.vec 4 t4 x103)), (1000000, (.box (.vcons (.d t22 x104) .vnil)))]⟩ [] (by kernel_rfl) (by kernel_rfl) trivial ?_
    obtain ⟨g_0, h⟩ := gd_elim h
    obtain ⟨g_1, h⟩ := gd_elim h
    obtain ⟨g_2, h⟩ := gd_elim h
    rcases bif_elim h with ⟨hb3, h⟩ | ⟨hb3, h⟩
    · obtain ⟨g_4, h⟩ := gd_elim h
      obtain ⟨g_5, h⟩ := gd_elim h
      obtain ⟨g_6, h⟩ := gd_elim h
      rcases bif_elim h with ⟨hb7, h⟩ | ⟨hb7, h⟩
      · rcases bif_elim h with ⟨hb8, h⟩ | ⟨hb8, h⟩
        · refine Run.regN hX [(5, .b true), (12, .b true), (15, .b true)] 1500 [0, 1, 5, 6, 7, 9, 10, 39, 40, 69] [202, 302, 402, 1000000] ⟨[(0, (.d t45 x97)), (1, (.fn 37 .vnil (.vcons (.ptr 1000000 0) .vnil))), (5, (.vec 202 t2)), (6, (.vec 302 t2)), (7, (.vec 402 t4)), (9, (.d t2 x98)), (10, (.d t2 x100)), (39, (.d t2 x99)), (40, (.d t2 x100)), (69, (.d t4 true))], [(202, (.vec 2 t2 x101)), (302, (.vec 3 t2 x102)), (402, (.vec 4 t4 x103)), (1000000, (.box (.vcons (.d t22 x104) .vnil)))]⟩ [(0 ≤ x100), (x100 < ((List.length x103 : Nat) : Int)), ((toN x100) < List.length x103), (!(List.getD x103 (toN x100) false)) = true, (0 ≤ x100), (x100 < ((List.length x101 : Nat) : Int)), ((toN x100) < List.length x101), (decide ((0 : Int) ≤ (List.getD x101 (toN x100) (0 : Int)))) = true, (decide (x98 < (0 : Int))) = true] (by kernel_rfl) (by kernel_rfl) ⟨g_0, g_1, g_2, hb3, g_4, g_5, g_6, hb7, hb8, trivial⟩ ?_
          refine Run.condN true (by kernel_rfl) (fun hb => ?_) (fun hb => (by cases hb))
          refine Run.regE hX [] 1600 [0, 1, 5, 6, 7, 9, 39, 40] [202, 302, 402, 1000000] ⟨[(0, (.d t45 x97)), (1, (.fn 37 .vnil (.vcons (.ptr 1000000 0) .vnil))), (5, (.vec 202 t2)), (6, (.vec 302 t2)), (7, (.vec 402 t4)), (9, (.d t2 x100)), (39, (.d t2 x99)), (40, (.d t2 x100))], [(202, (.vec 2 t2 x101)), (302, (.vec 3 t2 x102)), (402, (.vec 4 t4 x103)), (1000000, (.box (.vcons (.d t22 x104) .vnil)))]⟩ [] (by kernel_rfl) trivial ?_
          show Run Pg 177 _ _ _
          refine Run.regE hX [] 1700 [0, 1, 5, 6, 7, 9, 39, 40] [202, 302, 402, 1000000] ⟨[(0, (.d t45 x97)), (1, (.fn 37 .vnil (.vcons (.ptr 1000000 0) .vnil))), (5, (.vec 202 t2)), (6, (.vec 302 t2)), (7, (.vec 402 t4)), (9, (.d t2 x100)), (39, (.d t2 x99)), (40, (.d t2 (wrapI .i64 (x100 + (1 : Int)))))], [(202, (.vec 2 t2 x101)), (302, (.vec 3 t2 x102)), (402, (.vec 4 t4 x103)), (1000000, (.box (.vcons (.d t22 x104) .vnil)))]⟩ [] (by kernel_rfl) trivial ?_
          exact ⟨m, Nat.lt_succ_self m, _, _, rfl, h⟩
        · obtain ⟨g_9, h⟩ := gd_elim h
          obtain ⟨g_10, h⟩ := gd_elim h
          obtain ⟨g_11, h⟩ := gd_elim h
          obtain ⟨g_12, h⟩ := gd_elim h
          obtain ⟨g_13, h⟩ := gd_elim h
          obtain ⟨g_14, h⟩ := gd_elim h
          refine Run.regN hX [(5, .b true), (12, .b true), (15, .b false)] 1500 [0, 1, 5, 6, 7, 9, 10, 39, 40, 69] [202, 302, 402, 1000000] ⟨[(0, (.d t45 x97)), (1, (.fn 37 .vnil (.vcons (.ptr 1000000 0) .vnil))), (5, (.vec 202 t2)), (6, (.vec 302 t2)), (7, (.vec 402 t4)), (9, (.d t2 x98)), (10, (.d t2 x100)), (39, (.d t2 x99)), (40, (.d t2 x100)), (69, (.d t4 (decide ((List.getD x101 (toN x100) (0 : Int)) < (List.getD x101 (toN x98) (0 : Int))))))], [(202, (.vec 2 t2 x101)), (302, (.vec 3 t2 x102)), (402, (.vec 4 t4 x103)), (1000000, (.box (.vcons (.d t22 x104) .vnil)))]⟩ [(0 ≤ x100), (x100 < ((List.length x103 : Nat) : Int)), ((toN x100) < List.length x103), (!(List.getD x103 (toN x100) false)) = true, (0 ≤ x100), (x100 < ((List.length x101 : Nat) : Int)), ((toN x100) < List.length x101), (decide ((0 : Int) ≤ (List.getD x101 (toN x100) (0 : Int)))) = true, (decide (x98 < (0 : Int))) = false, (0 ≤ x100), (x100 < ((List.length x101 : Nat) : Int)), ((toN x100) < List.length x101), (0 ≤ x98), (x98 < ((List.length x101 : Nat) : Int)), ((toN x98) < List.length x101)] (by kernel_rfl) (by kernel_rfl) ⟨g_0, g_1, g_2, hb3, g_4, g_5, g_6, hb7, hb8, g_9, g_10, g_11, g_12, g_13, g_14, trivial⟩ ?_
          obtain ⟨o124, h_o124, h⟩ := bnd_elim h
          refine Run.mono (f39s0_c3_ok x97 x98 x100 x99 (decide ((List.getD x101 (toN x100) (0 : Int)) < (List.getD x101 (toN x98) (0 : Int)))) x101 x102 x103 x104 h_o124) ?_
          rintro x s ⟨hx, hs⟩
          subst hx
          subst hs
          show Run Pg 177 _ _ _
          refine Run.regE hX [] 1700 [0, 1, 5, 6, 7, 9, 39, 40] [202, 302, 402, 1000000] ⟨[(0, (.d t45 x97)), (1, (.fn 37 .vnil (.vcons (.ptr 1000000 0) .vnil))), (5, (.vec 202 t2)), (6, (.vec 302 t2)), (7, (.vec 402 t4)), (9, (.d t2 o124)), (39, (.d t2 x99)), (40, (.d t2 (wrapI .i64 (x100 + (1 : Int)))))], [(202, (.vec 2 t2 x101)), (302, (.vec 3 t2 x102)), (402, (.vec 4 t4 x103)), (1000000, (.box (.vcons (.d t22 x104) .vnil)))]⟩ [] (by kernel_rfl) trivial ?_
          exact ⟨m, Nat.lt_succ_self m, _, _, rfl, h⟩
      · refine Run.regN hX [(5, .b true), (12, .b false)] 1500 [0, 1, 5, 6, 7, 9, 10, 39, 40, 69] [202, 302, 402, 1000000] ⟨[(0, (.d t45 x97)), (1, (.fn 37 .vnil (.vcons (.ptr 1000000 0) .vnil))), (5, (.vec 202 t2)), (6, (.vec 302 t2)), (7, (.vec 402 t4)), (9, (.d t2 x98)), (10, (.d t2 x100)), (39, (.d t2 x99)), (40, (.d t2 x100)), (69, (.d t4 false))], [(202, (.vec 2 t2 x101)), (302, (.vec 3 t2 x102)), (402, (.vec 4 t4 x103)), (1000000, (.box (.vcons (.d t22 x104) .vnil)))]⟩ [(0 ≤ x100), (x100 < ((List.length x103 : Nat) : Int)), ((toN x100) < List.length x103), (!(List.getD x103 (toN x100) false)) = true, (0 ≤ x100), (x100 < ((List.length x101 : Nat) : Int)), ((toN x100) < List.length x101), (decide ((0 : Int) ≤ (List.getD x101 (toN x100) (0 : Int)))) = false] (by kernel_rfl) (by kernel_rfl) ⟨g_0, g_1, g_2, hb3, g_4, g_5, g_6, hb7, trivial⟩ ?_
        refine Run.condN false (by kernel_rfl) (fun hb => (by cases hb)) (fun hb => ?_)
        refine Run.skipN (by kernel_rfl) ?_
        show Run Pg 177 _ _ _
        refine Run.regE hX [] 1700 [0, 1, 5, 6, 7, 9, 39, 40] [202, 302, 402, 1000000] ⟨[(0, (.d t45 x97)), (1, (.fn 37 .vnil (.vcons (.ptr 1000000 0) .vnil))), (5, (.vec 202 t2)), (6, (.vec 302 t2)), (7, (.vec 402 t4)), (9, (.d t2 x98)), (39, (.d t2 x99)), (40, (.d t2 (wrapI .i64 (x100 + (1 : Int)))))], [(202, (.vec 2 t2 x101)), (302, (.vec 3 t2 x102)), (402, (.vec 4 t4 x103)), (1000000, (.box (.vcons (.d t22 x104) .vnil)))]⟩ [] (by kernel_rfl) trivial ?_
        exact ⟨m, Nat.lt_succ_self m, _, _, rfl, h⟩
    · refine Run.regN hX [(5, .b false)] 1500 [0, 1, 5, 6, 7, 9, 10, 39, 40, 69] [202, 302, 402, 1000000] ⟨[(0, (.d t45 x97)), (1, (.fn 37 .vnil (.vcons (.ptr 1000000 0) .vnil))), (5, (.vec 202 t2)), (6, (.vec 302 t2)), (7, (.vec 402 t4)), (9, (.d t2 x98)), (10, (.d t2 x100)), (39, (.d t2 x99)), (40, (.d t2 x100)), (69, (.d t4 false))], [(202, (.vec 2 t2 x101)), (302, (.vec 3 t2 x102)), (402, (.vec 4 t4 x103)), (1000000, (.box (.vcons (.d t22 x104) .vnil)))]⟩ [(0 ≤ x100), (x100 < ((List.length x103 : Nat) : Int)), ((toN x100) < List.length x103), (!(List.getD x103 (toN x100) false)) = false] (by kernel_rfl) (by kernel_rfl) ⟨g_0, g_1, g_2, hb3, trivial⟩ ?_
      refine Run.condN false (by kernel_rfl) (fun hb => (by cases hb)) (fun hb => ?_)
      refine Run.skipN (by kernel_rfl) ?_
      show Run Pg 177 _ _ _
      refine Run.regE hX [] 1700 [0, 1, 5, 6, 7, 9, 39, 40] [202, 302, 402, 1000000] ⟨[(0, (.d t45 x97)), (1, (.fn 37 .vnil (.vcons (.ptr 1000000 0) .vnil))), (5, (.vec 202 t2)), (6, (.vec 302 t2)), (7, (.vec 402 t4)), (9, (.d t2 x98)), (39, (.d t2 x99)), (40, (.d t2 (wrapI .i64 (x100 + (1 : Int)))))], [(202, (.vec 2 t2 x101)), (302, (.vec 3 t2 x102)), (402, (.vec 4 t4 x103)), (1000000, (.box (.vcons (.d t22 x104) .vnil)))]⟩ [] (by kernel_rfl) trivial ?_
      exact ⟨m, Nat.lt_succ_self m, _, _, rfl, h⟩
  · replace h := bif_f h hb
    refine Run.keep (s' := ⟨[(0, (.d t45 x97)), (1, (.fn 37 .vnil (.vcons (.ptr 1000000 0) .vnil))), (5, (.vec 202 t2)), (6, (.vec 302 t2)), (7, (.vec 402 t4)), (9, (.d t2 x98))], [(202, (.vec 2 t2 x101)), (302, (.vec 3 t2 x102)), (402, (.vec 4 t4 x103)), (1000000, (.box (.vcons (.d t22 x104) .vnil)))]⟩) [0, 1, 5, 6, 7, 9] [202, 302, 402, 1000000] (by kernel_rfl) ?_
    refine Run.exitN 4 (by kernel_rfl) ?_
    replace h := Option.some.inj h
    subst h
    exact ⟨rfl, by kernel_rfl⟩

def f39s0_c5_post (x158 : List (Int × Int)) (x159 : Int) (x160 : Int) (x161 : Int) (x162 : Int) (x163 : Bool) (x164 : List Int) (x165 : List Int) (x166 : List Bool) (x167 : List (Int × Int × Int × Int × Int)) : ((List Int) × (List Int)) → Ex → St → Prop
  | o, x, s => x = .nrm ∧ s = ⟨[(0, (.d t45 x158)), (1, (.fn 37 .vnil (.vcons (.ptr 1000000 0) .vnil))), (5, (.vec 202 t2)), (6, (.vec 302 t2)), (7, (.vec 402 t4)), (9, (.d t2 x159)), (83, (.d t2 x162)), (84, (.d t2 x160))], [(202, (.vec 2 t2 o.1)), (302, (.vec 3 t2 o.2)), (402, (.vec 4 t4 x166)), (1000000, (.box (.vcons (.d t22 x167) .vnil)))]⟩

def f39s0_c5 (x159 : Int) (x160 : Int) (x161 : Int) (x163 : Bool) (x164 : List Int) (x165 : List Int) : Option ((List Int) × (List Int)) :=
  (bif x163 then
    gd (0 ≤ x160) <|
    gd (x160 < ((List.length x164 : Nat) : Int)) <|
    gd ((toN x160) < List.length x164) <|
    gd (0 ≤ x160) <|
    gd (x160 < ((List.length x165 : Nat) : Int)) <|
    gd ((toN x160) < List.length x165) <|
    some ((List.set x164 (toN x160) x161), (List.set x165 (toN x160) x159))
  else
    some (x164, x165))

theorem f39s0_c5_ok (x158 : List (Int × Int)) (x159 : Int) (x160 : Int) (x161 : Int) (x162 : Int) (x163 : Bool) (x164 : List Int) (x165 : List Int) (x166 : List Bool) (x167 : List (Int × Int × Int × Int × Int)) {out : ((List Int) × (List Int))} (h : f39s0_c5 x159 x160 x161 x163 x164 x165 = some out) : Run Pg 177 (sq2 (sq2 (sq2 (bk1 (sq1 (sq2 (sq2 (lp1 (bk1 (sq2 (sq2 (sq2 (sq2 (sq2 (sq2 (bk1 (lp1 (bk1 (sq1 (sq2 (sq2 (sq2 (sq2 (sq2 (sq2 c_39))))))))))))))))))))))))) ⟨[(0, (.d t45 x158)), (1, (.fn 37 .vnil (.vcons (.ptr 1000000 0) .vnil))), (5, (.vec 202 t2)), (6, (.vec 302 t2)), (7, (.vec 402 t4)), (9, (.d t2 x159)), (11, (.d t2 x160)), (12, (.d t2 x161)), (83, (.d t2 x162)), (84, (.d t2 x160)), (132, (.d t4 x163))], [(202, (.vec 2 t2 x164)), (302, (.vec 3 t2 x165)), (402, (.vec 4 t4 x166)), (1000000, (.box (.vcons (.d t22 x167) .vnil)))]⟩ (f39s0_c5_post x158 x159 x160 x161 x162 x163 x164 x165 x166 x167 out) := by
  unfold f39s0_c5 at h
  refine Run.condN x163 (by kernel_rfl) (fun hb => ?_) (fun hb => ?_)
  · replace h := bif_t h hb
    obtain ⟨g_0, h⟩ := gd_elim h
    obtain ⟨g_1, h⟩ := gd_elim h
    obtain ⟨g_2, h⟩ := gd_elim h
    obtain ⟨g_3, h⟩ := gd_elim h
    obtain ⟨g_4, h⟩ := gd_elim h
    obtain ⟨g_5, h⟩ := gd_elim h
    refine Run.regE hX [] 2700 [0, 1, 5, 6, 7, 9, 83, 84] [202, 302, 402, 1000000] ⟨[(0, (.d t45 x158)), (1, (.fn 37 .vnil (.vcons (.ptr 1000000 0) .vnil))), (5, (.vec 202 t2)), (6, (.vec 302 t2)), (7, (.vec 402 t4)), (9, (.d t2 x159)), (83, (.d t2 x162)), (84, (.d t2 x160))], [(202, (.vec 2 t2 (List.set x164 (toN x160) x161))), (302, (.vec 3 t2 (List.set x165 (toN x160) x159))), (402, (.vec 4 t4 x166)), (1000000, (.box (.vcons (.d t22 x167) .vnil)))]⟩ [(0 ≤ x160), (x160 < ((List.length x164 : Nat) : Int)), ((toN x160) < List.length x164), (0 ≤ x160), (x160 < ((List.length x165 : Nat) : Int)), ((toN x160) < List.length x165)] (by kernel_rfl) ⟨g_0, g_1, g_2, g_3, g_4, g_5, trivial⟩ ?_
    replace h := Option.some.inj h
    subst h
    exact ⟨rfl, by kernel_rfl⟩
  · replace h := bif_f h hb
    refine Run.keep (s' := ⟨[(0, (.d t45 x158)), (1, (.fn 37 .vnil (.vcons (.ptr 1000000 0) .vnil))), (5, (.vec 202 t2)), (6, (.vec 302 t2)), (7, (.vec 402 t4)), (9, (.d t2 x159)), (83, (.d t2 x162)), (84, (.d t2 x160))], [(202, (.vec 2 t2 x164)), (302, (.vec 3 t2 x165)), (402, (.vec 4 t4 x166)), (1000000, (.box (.vcons (.d t22 x167) .vnil)))]⟩) [0, 1, 5, 6, 7, 9, 83, 84] [202, 302, 402, 1000000] (by kernel_rfl) ?_
    refine Run.skipN (by kernel_rfl) ?_
    replace h := Option.some.inj h
    subst h
    exact ⟨rfl, by kernel_rfl⟩

def f39s0_c6_post (x169 : List (Int × Int)) (x170 : Int) (x171 : Int) (x172 : Int) (x173 : Int) (x174 : Bool) (x175 : List Int) (x176 : List Int) (x177 : List Bool) (x178 : List (Int × Int × Int × Int × Int)) : ((List Int) × (List Int)) → Ex → St → Prop
  | o, x, s => x = .nrm ∧ s = ⟨[(0, (.d t45 x169)), (1, (.fn 37 .vnil (.vcons (.ptr 1000000 0) .vnil))), (5, (.vec 202 t2)), (6, (.vec 302 t2)), (7, (.vec 402 t4)), (9, (.d t2 x170)), (83, (.d t2 x173)), (84, (.d t2 x171))], [(202, (.vec 2 t2 o.1)), (302, (.vec 3 t2 o.2)), (402, (.vec 4 t4 x177)), (1000000, (.box (.vcons (.d t22 x178) .vnil)))]⟩

def f39s0_c6 (x170 : Int) (x171 : Int) (x172 : Int) (x174 : Bool) (x175 : List Int) (x176 : List Int) : Option ((List Int) × (List Int)) :=
  (bif x174 then
    gd (0 ≤ x171) <|
    gd (x171 < ((List.length x175 : Nat) : Int)) <|
    gd ((toN x171) < List.length x175) <|
    gd (0 ≤ x171) <|
    gd (x171 < ((List.length x176 : Nat) : Int)) <|
    gd ((toN x171) < List.length x176) <|
    some ((List.set x175 (toN x171) x172), (List.set x176 (toN x171) x170))
  else
    some (x175, x176))

theorem f39s0_c6_ok (x169 : List (Int × Int)) (x170 : Int) (x171 : Int) (x172 : Int) (x173 : Int) (x174 : Bool) (x175 : List Int) (x176 : List Int) (x177 : List Bool) (x178 : List (Int × Int × Int × Int × Int)) {out : ((List Int) × (List Int))} (h : f39s0_c6 x170 x171 x172 x174 x175 x176 = some out) : Run Pg 177 (sq2 (sq2 (sq2 (bk1 (sq1 (sq2 (sq2 (lp1 (bk1 (sq2 (sq2 (sq2 (sq2 (sq2 (sq2 (bk1 (lp1 (bk1 (sq1 (sq2 (sq2 (sq2 (sq2 (sq2 (sq2 c_39))))))))))))))))))))))))) ⟨[(0, (.d t45 x169)), (1, (.fn 37 .vnil (.vcons (.ptr 1000000 0) .vnil))), (5, (.vec 202 t2)), (6, (.vec 302 t2)), (7, (.vec 402 t4)), (9, (.d t2 x170)), (11, (.d t2 x171)), (12, (.d t2 x172)), (83, (.d t2 x173)), (84, (.d t2 x171)), (132, (.d t4 x174))], [(202, (.vec 2 t2 x175)), (302, (.vec 3 t2 x176)), (402, (.vec 4 t4 x177)), (1000000, (.box (.vcons (.d t22 x178) .vnil)))]⟩ (f39s0_c6_post x169 x170 x171 x172 x173 x174 x175 x176 x177 x178 out) := by
  unfold f39s0_c6 at h
  refine Run.condN x174 (by kernel_rfl) (fun hb => ?_) (fun hb => ?_)
  · replace h := bif_t h hb
    obtain ⟨g_0, h⟩ := gd_elim h
    obtain ⟨g_1, h⟩ := gd_elim h
    obtain ⟨g_2, h⟩ := gd_elim h
    obtain ⟨g_3, h⟩ := gd_elim h
    obtain ⟨g_4, h⟩ := gd_elim h
    obtain ⟨g_5, h⟩ := gd_elim h
    refine Run.regE hX [] 2700 [0, 1, 5, 6, 7, 9, 83, 84] [202, 302, 402, 1000000] ⟨[(0, (.d t45 x169)), (1, (.fn 37 .vnil (.vcons (.ptr 1000000 0) .vnil))), (5, (.vec 202 t2)), (6, (.vec 302 t2)), (7, (.vec 402 t4)), (9, (.d t2 x170)), (83, (.d t2 x173)), (84, (.d t2 x171))], [(202, (.vec 2 t2 (List.set x175 (toN x171) x172))), (302, (.vec 3 t2 (List.set x176 (toN x171) x170))), (402, (.vec 4 t4 x177)), (1000000, (.box (.vcons (.d t22 x178) .vnil)))]⟩ [(0 ≤ x171), (x171 < ((List.length x175 : Nat) : Int)), ((toN x171) < List.length x175), (0 ≤ x171), (x171 < ((List.length x176 : Nat) : Int)), ((toN x171) < List.length x176)] (by kernel_rfl) ⟨g_0, g_1, g_2, g_3, g_4, g_5, trivial⟩ ?_
    replace h := Option.some.inj h
    subst h
    exact ⟨rfl, by kernel_rfl⟩
  · replace h := bif_f h hb
    refine Run.keep (s' := ⟨[(0, (.d t45 x169)), (1, (.fn 37 .vnil (.vcons (.ptr 1000000 0) .vnil))), (5, (.vec 202 t2)), (6, (.vec 302 t2)), (7, (.vec 402 t4)), (9, (.d t2 x170)), (83, (.d t2 x173)), (84, (.d t2 x171))], [(202, (.vec 2 t2 x175)), (302, (.vec 3 t2 x176)), (402, (.vec 4 t4 x177)), (1000000, (.box (.vcons (.d t22 x178) .vnil)))]⟩) [0, 1, 5, 6, 7, 9, 83, 84] [202, 302, 402, 1000000] (by kernel_rfl) ?_
    refine Run.skipN (by kernel_rfl) ?_
    replace h := Option.some.inj h
    subst h
    exact ⟨rfl, by kernel_rfl⟩

def f39s0_l4_post (x126 : List (Int × Int)) (x127 : Int) (x128 : Int) (x132 : List Bool) (x133 : List (Int × Int × Int × Int × Int)) : ((List Int) × (List Int)) → Ex → St → Prop
  | o, x, s => x = .out 6 ∧ s = ⟨[(0, (.d t45 x126)), (1, (.fn 37 .vnil (.vcons (.ptr 1000000 0) .vnil))), (5, (.vec 202 t2)), (6, (.vec 302 t2)), (7, (.vec 402 t4))], [(202, (.vec 2 t2 o.1)), (302, (.vec 3 t2 o.2)), (402, (.vec 4 t4 x132)), (1000000, (.box (.vcons (.d t22 x133) .vnil)))]⟩

def f39s0_l4_b (x126 : List (Int × Int)) (x127 : Int) (x128 : Int) (x132 : List Bool) (x133 : List (Int × Int × Int × Int × Int)) (again : Int × (List Int) × (List Int) → Option ((List Int) × (List Int))) : Int × (List Int) × (List Int) → Option ((List Int) × (List Int))
  | (x129, x130, x131) =>
    (bif (decide (x129 < x128)) then
      gd (0 ≤ x127) <|
      gd (x127 < ((List.length x130 : Nat) : Int)) <|
      gd ((toN x127) < List.length x130) <|
      gd (0 ≤ x127) <|
      gd (x127 < ((List.length x126 : Nat) : Int)) <|
      gd (0 ≤ x129) <|
      gd (x129 < ((List.length x126 : Nat) : Int)) <|
      (F42 (List.getD x126 (toN x127) ((0 : Int), (0 : Int))) (List.getD x126 (toN x129) ((0 : Int), (0 : Int)))).bind fun y157 =>
      gd (0 ≤ x129) <|
      gd (x129 < ((List.length x132 : Nat) : Int)) <|
      gd ((toN x129) < List.length x132) <|
      (bif (!(List.getD x132 (toN x129) false)) then
        gd (0 ≤ x129) <|
        gd (x129 < ((List.length x130 : Nat) : Int)) <|
        gd ((toN x129) < List.length x130) <|
        (bif (decide ((List.getD x130 (toN x129) (0 : Int)) < (0 : Int))) then
          gd (0 ≤ x127) <|
          gd (x127 < ((List.length x126 : Nat) : Int)) <|
          gd (0 ≤ x129) <|
          gd (x129 < ((List.length x126 : Nat) : Int)) <|
          (F37s0 (List.getD x126 (toN x127) ((0 : Int), (0 : Int))) (List.getD x126 (toN x129) ((0 : Int), (0 : Int))) x133).bind fun y158 =>
          ((f39s0_c5 x127 x129 (wrapI .i64 ((List.getD x130 (toN x127) (0 : Int)) + y157)) y158 x130 x131).bind fun o168 =>
            again ((wrapI .i64 (x129 + (1 : Int))), o168.1, o168.2))
        else
          gd (0 ≤ x129) <|
          gd (x129 < ((List.length x130 : Nat) : Int)) <|
          gd ((toN x129) < List.length x130) <|
          (bif (decide ((wrapI .i64 ((List.getD x130 (toN x127) (0 : Int)) + y157)) < (List.getD x130 (toN x129) (0 : Int)))) then
            gd (0 ≤ x127) <|
            gd (x127 < ((List.length x126 : Nat) : Int)) <|
            gd (0 ≤ x129) <|
            gd (x129 < ((List.length x126 : Nat) : Int)) <|
            (F37s0 (List.getD x126 (toN x127) ((0 : Int), (0 : Int))) (List.getD x126 (toN x129) ((0 : Int), (0 : Int))) x133).bind fun y158 =>
            ((f39s0_c6 x127 x129 (wrapI .i64 ((List.getD x130 (toN x127) (0 : Int)) + y157)) y158 x130 x131).bind fun o179 =>
              again ((wrapI .i64 (x129 + (1 : Int))), o179.1, o179.2))
          else
            again ((wrapI .i64 (x129 + (1 : Int))), x130, x131)))
      else
        again ((wrapI .i64 (x129 + (1 : Int))), x130, x131))
    else
      some (x130, x131))

def f39s0_l4 (x126 : List (Int × Int)) (x127 : Int) (x128 : Int) (x132 : List Bool) (x133 : List (Int × Int × Int × Int × Int)) : Nat → Int × (List Int) × (List Int) → Option ((List Int) × (List Int)) := loopF (f39s0_l4_b x126 x127 x128 x132 x133)

theorem f39s0_l4_ok (x126 : List (Int × Int)) (x127 : Int) (x128 : Int) (x132 : List Bool) (x133 : List (Int × Int × Int × Int × Int)) (k : Nat) (x129 : Int) (x130 : List Int) (x131 : List Int) {out : ((List Int) × (List Int))} (h : f39s0_l4 x126 x127 x128 x132 x133 k (x129, x130, x131) = some out) : Run Pg 177 (bk1 (sq2 (sq2 (sq2 (sq2 (sq2 (sq2 (bk1 (lp1 (bk1 (sq1 (sq2 (sq2 (sq2 (sq2 (sq2 (sq2 c_39))))))))))))))))) ⟨[(0, (.d t45 x126)), (1, (.fn 37 .vnil (.vcons (.ptr 1000000 0) .vnil))), (5, (.vec 202 t2)), (6, (.vec 302 t2)), (7, (.vec 402 t4)), (9, (.d t2 x127)), (83, (.d t2 x128)), (84, (.d t2 x129))], [(202, (.vec 2 t2 x130)), (302, (.vec 3 t2 x131)), (402, (.vec 4 t4 x132)), (1000000, (.box (.vcons (.d t22 x133) .vnil)))]⟩ (f39s0_l4_post x126 x127 x128 x132 x133 out) := by
  refine Run.loopN (by kernel_rfl) (fun m s => ∃ x129 x130 x131, s = ⟨[(0, (.d t45 x126)), (1, (.fn 37 .vnil (.vcons (.ptr 1000000 0) .vnil))), (5, (.vec 202 t2)), (6, (.vec 302 t2)), (7, (.vec 402 t4)), (9, (.d t2 x127)), (83, (.d t2 x128)), (84, (.d t2 x129))], [(202, (.vec 2 t2 x130)), (302, (.vec 3 t2 x131)), (402, (.vec 4 t4 x132)), (1000000, (.box (.vcons (.d t22 x133) .vnil)))]⟩ ∧ f39s0_l4 x126 x127 x128 x132 x133 m (x129, x130, x131) = some out) ?_ k ⟨x129, x130, x131,  rfl, h⟩
  rintro m s ⟨x129, x130, x131,  rfl, h⟩
  cases m with
  | zero => cases h
  | succ m =>
  replace h : f39s0_l4_b x126 x127 x128 x132 x133 (f39s0_l4 x126 x127 x128 x132 x133 m) (x129, x130, x131) = some out := h
  unfold f39s0_l4_b at h
  refine Run.regN hX [] 2300 [0, 1, 5, 6, 7, 9, 83, 84, 85] [202, 302, 402, 1000000] ⟨[(0, (.d t45 x126)), (1, (.fn 37 .vnil (.vcons (.ptr 1000000 0) .vnil))), (5, (.vec 202 t2)), (6, (.vec 302 t2)), (7, (.vec 402 t4)), (9, (.d t2 x127)), (83, (.d t2 x128)), (84, (.d t2 x129)), (85, (.d t4 (decide (x129 < x128))))], [(202, (.vec 2 t2 x130)), (302, (.vec 3 t2 x131)), (402, (.vec 4 t4 x132)), (1000000, (.box (.vcons (.d t22 x133) .vnil)))]⟩ [] (by kernel_rfl) (by kernel_rfl) trivial ?_
  refine Run.seqN (by kernel_rfl) ?_
  refine Run.condN (decide (x129 < x128)) (by kernel_rfl) (fun hb => ?_) (fun hb => ?_)
  · replace h := bif_t h hb
    refine Run.skipN (by kernel_rfl) ?_
    show Run Pg 177 _ _ _
    refine Run.seqN (by kernel_rfl) ?_
    refine Run.blockN 7 (by kernel_rfl) ?_
    refine Run.regN hX [] 2400 [0, 1, 5, 6, 7, 9, 11, 83, 84] [202, 302, 402, 1000000] ⟨[(0, (.d t45 x126)), (1, (.fn 37 .vnil (.vcons (.ptr 1000000 0) .vnil))), (5, (.vec 202 t2)), (6, (.vec 302 t2)), (7, (.vec 402 t4)), (9, (.d t2 x127)), (11, (.d t2 x129)), (83, (.d t2 x128)), (84, (.d t2 x129))], [(202, (.vec 2 t2 x130)), (302, (.vec 3 t2 x131)), (402, (.vec 4 t4 x132)), (1000000, (.box (.vcons (.d t22 x133) .vnil)))]⟩ [] (by kernel_rfl) (by kernel_rfl) trivial ?_
    obtain ⟨g_0, h⟩ := gd_elim h
    obtain ⟨g_1, h⟩ := gd_elim h
    obtain ⟨g_2, h⟩ := gd_elim h
    obtain ⟨g_3, h⟩ := gd_elim h
    obtain ⟨g_4, h⟩ := gd_elim h
    obtain ⟨g_5, h⟩ := gd_elim h
    obtain ⟨g_6, h⟩ := gd_elim h
    obtain ⟨y157, h_y157, h⟩ := bnd_elim h
    refine Run.regN hX [(12, .call (.d t2 y157))] 2500 [0, 1, 5, 6, 7, 9, 11, 12, 83, 84] [202, 302, 402, 1000000] ⟨[(0, (.d t45 x126)), (1, (.fn 37 .vnil (.vcons (.ptr 1000000 0) .vnil))), (5, (.vec 202 t2)), (6, (.vec 302 t2)), (7, (.vec 402 t4)), (9, (.d t2 x127)), (11, (.d t2 x129)), (12, (.d t2 (wrapI .i64 ((List.getD x130 (toN x127) (0 : Int)) + y157)))), (83, (.d t2 x128)), (84, (.d t2 x129))], [(202, (.vec 2 t2 x130)), (302, (.vec 3 t2 x131)), (402, (.vec 4 t4 x132)), (1000000, (.box (.vcons (.d t22 x133) .vnil)))]⟩ [(0 ≤ x127), (x127 < ((List.length x130 : Nat) : Int)), ((toN x127) < List.length x130), (0 ≤ x127), (x127 < ((List.length x126 : Nat) : Int)), (0 ≤ x129), (x129 < ((List.length x126 : Nat) : Int)), CallPure Pg 42 [(.d t28 (List.getD x126 (toN x127) ((0 : Int), (0 : Int)))), (.d t28 (List.getD x126 (toN x129) ((0 : Int), (0 : Int))))] (.d t2 y157)] (by kernel_rfl) (by kernel_rfl) ⟨g_0, g_1, g_2, g_3, g_4, g_5, g_6, (c42 h_y157), trivial⟩ ?_
    obtain ⟨g_0, h⟩ := gd_elim h
    obtain ⟨g_1, h⟩ := gd_elim h
    obtain ⟨g_2, h⟩ := gd_elim h
    rcases bif_elim h with ⟨hb3, h⟩ | ⟨hb3, h⟩
    · obtain ⟨g_4, h⟩ := gd_elim h
      obtain ⟨g_5, h⟩ := gd_elim h
      obtain ⟨g_6, h⟩ := gd_elim h
      rcases bif_elim h with ⟨hb7, h⟩ | ⟨hb7, h⟩
      · obtain ⟨g_8, h⟩ := gd_elim h
        obtain ⟨g_9, h⟩ := gd_elim h
        obtain ⟨g_10, h⟩ := gd_elim h
        obtain ⟨g_11, h⟩ := gd_elim h
        obtain ⟨y158, h_y158, h⟩ := bnd_elim h
        refine Run.regN hX [(5, .b true), (11, .b true), (30, .callS [(1000000, (.box (.vcons (.d t22 x133) .vnil)))] [(.d t28 (List.getD x126 (toN x127) ((0 : Int), (0 : Int)))), (.d t28 (List.getD x126 (toN x129) ((0 : Int), (0 : Int)))), (.ptr 1000000 0)] [(1000000, 1000000)] (.d t4 y158) [(1000000, (.box (.vcons (.d t22 x133) .vnil)))])] 2600 [0, 1, 5, 6, 7, 9, 11, 12, 83, 84, 132] [202, 302, 402, 1000000] ⟨[(0, (.d t45 x126)), (1, (.fn 37 .vnil (.vcons (.ptr 1000000 0) .vnil))), (5, (.vec 202 t2)), (6, (.vec 302 t2)), (7, (.vec 402 t4)), (9, (.d t2 x127)), (11, (.d t2 x129)), (12, (.d t2 (wrapI .i64 ((List.getD x130 (toN x127) (0 : Int)) + y157)))), (83, (.d t2 x128)), (84, (.d t2 x129)), (132, (.d t4 y158))], [(202, (.vec 2 t2 x130)), (302, (.vec 3 t2 x131)), (402, (.vec 4 t4 x132)), (1000000, (.box (.vcons (.d t22 x133) .vnil)))]⟩ [(0 ≤ x129), (x129 < ((List.length x132 : Nat) : Int)), ((toN x129) < List.length x132), (!(List.getD x132 (toN x129) false)) = true, (0 ≤ x129), (x129 < ((List.length x130 : Nat) : Int)), ((toN x129) < List.length x130), (decide ((List.getD x130 (toN x129) (0 : Int)) < (0 : Int))) = true, (0 ≤ x127), (x127 < ((List.length x126 : Nat) : Int)), (0 ≤ x129), (x129 < ((List.length x126 : Nat) : Int)), (([(.d t28 (List.getD x126 (toN x127) ((0 : Int), (0 : Int)))), (.d t28 (List.getD x126 (toN x129) ((0 : Int), (0 : Int)))), (.ptr 1000000 0)] : List V) = List.map (V.ren (renL [(1000000, 1000000)] 2630)) [(.d t28 (List.getD x126 (toN x127) ((0 : Int), (0 : Int)))), (.d t28 (List.getD x126 (toN x129) ((0 : Int), (0 : Int)))), (.ptr 1000000 0)]), CallSt Pg 37 [(.d t28 (List.getD x126 (toN x127) ((0 : Int), (0 : Int)))), (.d t28 (List.getD x126 (toN x129) ((0 : Int), (0 : Int)))), (.ptr 1000000 0)] [(1000000, (.box (.vcons (.d t22 x133) .vnil)))] (.d t4 y158) [(1000000, (.box (.vcons (.d t22 x133) .vnil)))], ((some (.box (.vcons (.d t22 x133) .vnil)) : Option E) = some (E.ren (renL [(1000000, 1000000)] 2630) (.box (.vcons (.d t22 x133) .vnil))))] (by kernel_rfl) (by kernel_rfl) ⟨g_0, g_1, g_2, hb3, g_4, g_5, g_6, hb7, g_8, g_9, g_10, g_11, (by kernel_rfl), (c37s0 h_y158), (by kernel_rfl), trivial⟩ ?_
        obtain ⟨o168, h_o168, h⟩ := bnd_elim h
        refine Run.mono (f39s0_c5_ok x126 x127 x129 (wrapI .i64 ((List.getD x130 (toN x127) (0 : Int)) + y157)) x128 y158 x130 x131 x132 x133 h_o168) ?_
        rintro x s ⟨hx, hs⟩
        subst hx
        subst hs
        show Run Pg 177 _ _ _
        refine Run.regE hX [] 2800 [0, 1, 5, 6, 7, 9, 83, 84] [202, 302, 402, 1000000] ⟨[(0, (.d t45 x126)), (1, (.fn 37 .vnil (.vcons (.ptr 1000000 0) .vnil))), (5, (.vec 202 t2)), (6, (.vec 302 t2)), (7, (.vec 402 t4)), (9, (.d t2 x127)), (83, (.d t2 x128)), (84, (.d t2 (wrapI .i64 (x129 + (1 : Int)))))], [(202, (.vec 2 t2 o168.1)), (302, (.vec 3 t2 o168.2)), (402, (.vec 4 t4 x132)), (1000000, (.box (.vcons (.d t22 x133) .vnil)))]⟩ [] (by kernel_rfl) trivial ?_
        exact ⟨m, Nat.lt_succ_self m, _, _, _, rfl, h⟩
      · obtain ⟨g_8, h⟩ := gd_elim h
        obtain ⟨g_9, h⟩ := gd_elim h
        obtain ⟨g_10, h⟩ := gd_elim h
        rcases bif_elim h with ⟨hb11, h⟩ | ⟨hb11, h⟩
        · obtain ⟨g_12, h⟩ := gd_elim h
          obtain ⟨g_13, h⟩ := gd_elim h
          obtain ⟨g_14, h⟩ := gd_elim h
          obtain ⟨g_15, h⟩ := gd_elim h
          obtain ⟨y158, h_y158, h⟩ := bnd_elim h
          refine Run.regN hX [(5, .b true), (11, .b false), (20, .b true), (30, .callS [(1000000, (.box (.vcons (.d t22 x133) .vnil)))] [(.d t28 (List.getD x126 (toN x127) ((0 : Int), (0 : Int)))), (.d t28 (List.getD x126 (toN x129) ((0 : Int), (0 : Int)))), (.ptr 1000000 0)] [(1000000, 1000000)] (.d t4 y158) [(1000000, (.box (.vcons (.d t22 x133) .vnil)))])] 2600 [0, 1, 5, 6, 7, 9, 11, 12, 83, 84, 132] [202, 302, 402, 1000000] ⟨[(0, (.d t45 x126)), (1, (.fn 37 .vnil (.vcons (.ptr 1000000 0) .vnil))), (5, (.vec 202 t2)), (6, (.vec 302 t2)), (7, (.vec 402 t4)), (9, (.d t2 x127)), (11, (.d t2 x129)), (12, (.d t2 (wrapI .i64 ((List.getD x130 (toN x127) (0 : Int)) + y157)))), (83, (.d t2 x128)), (84, (.d t2 x129)), (132, (.d t4 y158))], [(202, (.vec 2 t2 x130)), (302, (.vec 3 t2 x131)), (402, (.vec 4 t4 x132)), (1000000, (.box (.vcons (.d t22 x133) .vnil)))]⟩ [(0 ≤ x129), (x129 < ((List.length x132 : Nat) : Int)), ((toN x129) < List.length x132), (!(List.getD x132 (toN x129) false)) = true, (0 ≤ x129), (x129 < ((List.length x130 : Nat) : Int)), ((toN x129) < List.length x130), (decide ((List.getD x130 (toN x129) (0 : Int)) < (0 : Int))) = false, (0 ≤ x129), (x129 < ((List.length x130 : Nat) : Int)), ((toN x129) < List.length x130), (decide ((wrapI .i64 ((List.getD x130 (toN x127) (0 : Int)) + y157)) < (List.getD x130 (toN x129) (0 : Int)))) = true, (0 ≤ x127), (x127 < ((List.length x126 : Nat) : Int)), (0 ≤ x129), (x129 < ((List.length x126 : Nat) : Int)), (([(.d t28 (List.getD x126 (toN x127) ((0 : Int), (0 : Int)))), (.d t28 (List.getD x126 (toN x129) ((0 : Int), (0 : Int)))), (.ptr 1000000 0)] : List V) = List.map (V.ren (renL [(1000000, 1000000)] 2630)) [(.d t28 (List.getD x126 (toN x127) ((0 : Int), (0 : Int)))), (.d t28 (List.getD x126 (toN x129) ((0 : Int), (0 : Int)))), (.ptr 1000000 0)]), CallSt Pg 37 [(.d t28 (List.getD x126 (toN x127) ((0 : Int), (0 : Int)))), (.d t28 (List.getD x126 (toN x129) ((0 : Int), (0 : Int)))), (.ptr 1000000 0)] [(1000000, (.box (.vcons (.d t22 x133) .vnil)))] (.d t4 y158) [(1000000, (.box (.vcons (.d t22 x133) .vnil)))], ((some (.box (.vcons (.d t22 x133) .vnil)) : Option E) = some (E.ren (renL [(1000000, 1000000)] 2630) (.box (.vcons (.d t22 x133) .vnil))))] (by kernel_rfl) (by kernel_rfl) ⟨g_0, g_1, g_2, hb3, g_4, g_5, g_6, hb7, g_8, g_9, g_10, hb11, g_12, g_13, g_14, g_15, (by kernel_rfl), (c37s0 h_y158), (by kernel_rfl), trivial⟩ ?_
          obtain ⟨o179, h_o179, h⟩ := bnd_elim h
          refine Run.mono (f39s0_c6_ok x126 x127 x129 (wrapI .i64 ((List.getD x130 (toN x127) (0 : Int)) + y157)) x128 y158 x130 x131 x132 x133 h_o179) ?_
          rintro x s ⟨hx, hs⟩
          subst hx
          subst hs
          show Run Pg 177 _ _ _
          refine Run.regE hX [] 2800 [0, 1, 5, 6, 7, 9, 83, 84] [202, 302, 402, 1000000] ⟨[(0, (.d t45 x126)), (1, (.fn 37 .vnil (.vcons (.ptr 1000000 0) .vnil))), (5, (.vec 202 t2)), (6, (.vec 302 t2)), (7, (.vec 402 t4)), (9, (.d t2 x127)), (83, (.d t2 x128)), (84, (.d t2 (wrapI .i64 (x129 + (1 : Int)))))], [(202, (.vec 2 t2 o179.1)), (302, (.vec 3 t2 o179.2)), (402, (.vec 4 t4 x132)), (1000000, (.box (.vcons (.d t22 x133) .vnil)))]⟩ [] (by kernel_rfl) trivial ?_
          exact ⟨m, Nat.lt_succ_self m, _, _, _, rfl, h⟩
        · refine Run.regN hX [(5, .b true), (11, .b false), (20, .b false)] 2600 [0, 1, 5, 6, 7, 9, 11, 12, 83, 84, 132] [202, 302, 402, 1000000] ⟨[(0, (.d t45 x126)), (1, (.fn 37 .vnil (.vcons (.ptr 1000000 0) .vnil))), (5, (.vec 202 t2)), (6, (.vec 302 t2)), (7, (.vec 402 t4)), (9, (.d t2 x127)), (11, (.d t2 x129)), (12, (.d t2 (wrapI .i64 ((List.getD x130 (toN x127) (0 : Int)) + y157)))), (83, (.d t2 x128)), (84, (.d t2 x129)), (132, (.d t4 false))], [(202, (.vec 2 t2 x130)), (302, (.vec 3 t2 x131)), (402, (.vec 4 t4 x132)), (1000000, (.box (.vcons (.d t22 x133) .vnil)))]⟩ [(0 ≤ x129), (x129 < ((List.length x132 : Nat) : Int)), ((toN x129) < List.length x132), (!(List.getD x132 (toN x129) false)) = true, (0 ≤ x129), (x129 < ((List.length x130 : Nat) : Int)), ((toN x129) < List.length x130), (decide ((List.getD x130 (toN x129) (0 : Int)) < (0 : Int))) = false, (0 ≤ x129), (x129 < ((List.length x130 : Nat) : Int)), ((toN x129) < List.length x130), (decide ((wrapI .i64 ((List.getD x130 (toN x127) (0 : Int)) + y157)) < (List.getD x130 (toN x129) (0 : Int)))) = false] (by kernel_rfl) (by kernel_rfl) ⟨g_0, g_1, g_2, hb3, g_4, g_5, g_6, hb7, g_8, g_9, g_10, hb11, trivial⟩ ?_
          refine Run.condN false (by kernel_rfl) (fun hb => (by cases hb)) (fun hb => ?_)
          refine Run.skipN (by kernel_rfl) ?_
          show Run Pg 177 _ _ _
          refine Run.regE hX [] 2800 [0, 1, 5, 6, 7, 9, 83, 84] [202, 302, 402, 1000000] ⟨[(0, (.d t45 x126)), (1, (.fn 37 .vnil (.vcons (.ptr 1000000 0) .vnil))), (5, (.vec 202 t2)), (6, (.vec 302 t2)), (7, (.vec 402 t4)), (9, (.d t2 x127)), (83, (.d t2 x128)), (84, (.d t2 (wrapI .i64 (x129 + (1 : Int)))))], [(202, (.vec 2 t2 x130)), (302, (.vec 3 t2 x131)), (402, (.vec 4 t4 x132)), (1000000, (.box (.vcons (.d t22 x133) .vnil)))]⟩ [] (by kernel_rfl) trivial ?_
          exact ⟨m, Nat.lt_succ_self m, _, _, _, rfl, h⟩
    · refine Run.regN hX [(5, .b false)] 2600 [0, 1, 5, 6, 7, 9, 11, 12, 83, 84, 132] [202, 302, 402, 1000000] ⟨[(0, (.d t45 x126)), (1, (.fn 37 .vnil (.vcons (.ptr 1000000 0) .vnil))), (5, (.vec 202 t2)), (6, (.vec 302 t2)), (7, (.vec 402 t4)), (9, (.d t2 x127)), (11, (.d t2 x129)), (12, (.d t2 (wrapI .i64 ((List.getD x130 (toN x127) (0 : Int)) + y157)))), (83, (.d t2 x128)), (84, (.d t2 x129)), (132, (.d t4 false))], [(202, (.vec 2 t2 x130)), (302, (.vec 3 t2 x131)), (402, (.vec 4 t4 x132)), (1000000, (.box (.vcons (.d t22 x133) .vnil)))]⟩ [(0 ≤ x129), (x129 < ((List.length x132 : Nat) : Int)), ((toN x129) < List.length x132), (!(List.getD x132 (toN x129) false)) = false] (by kernel_rfl) (by kernel_rfl) ⟨g_0, g_1, g_2, hb3, trivial⟩ ?_
      refine Run.condN false (by kernel_rfl) (fun hb => (by cases hb)) (fun hb => ?_)
      refine Run.skipN (by kernel_rfl) ?_
      show Run Pg 177 _ _ _
      refine Run.regE hX [] 2800 [0, 1, 5, 6, 7, 9, 83, 84] [202, 302, 402, 1000000] ⟨[(0, (.d t45 x126)), (1, (.fn 37 .vnil (.vcons (.ptr 1000000 0) .vnil))), (5, (.vec 202 t2)), (6, (.vec 302 t2)), (7, (.vec 402 t4)), (9, (.d t2 x127)), (83, (.d t2 x128)), (84, (.d t2 (wrapI .i64 (x129 + (1 : Int)))))], [(202, (.vec 2 t2 x130)), (302, (.vec 3 t2 x131)), (402, (.vec 4 t4 x132)), (1000000, (.box (.vcons (.d t22 x133) .vnil)))]⟩ [] (by kernel_rfl) trivial ?_
      exact ⟨m, Nat.lt_succ_self m, _, _, _, rfl, h⟩
  · replace h := bif_f h hb
    refine Run.keep (s' := ⟨[(0, (.d t45 x126)), (1, (.fn 37 .vnil (.vcons (.ptr 1000000 0) .vnil))), (5, (.vec 202 t2)), (6, (.vec 302 t2)), (7, (.vec 402 t4))], [(202, (.vec 2 t2 x130)), (302, (.vec 3 t2 x131)), (402, (.vec 4 t4 x132)), (1000000, (.box (.vcons (.d t22 x133) .vnil)))]⟩) [0, 1, 5, 6, 7] [202, 302, 402, 1000000] (by kernel_rfl) ?_
    refine Run.exitN 6 (by kernel_rfl) ?_
    replace h := Option.some.inj h
    subst h
    exact ⟨rfl, by kernel_rfl⟩

def f39s0_l1_post (a1 : List (Int × Int × Int × Int × Int)) (x8 : List (Int × Int)) (x12 : List (Int × Int × Int × Int × Int)) : (((List Int)) ⊕ ((List (Int × Int)) × (List (Int × Int × Int × Int × Int)))) → Ex → St → Prop
  | .inl o, x, s => x = .out 2 ∧ s = ⟨[(0, (.d t45 x8)), (6, (.vec 302 t2))], [(302, (.vec 3 t2 o)), (1000000, (.box (.vcons (.d t22 x12) .vnil)))]⟩
  | .inr o, x, s => x = .ret ∧ fin39s0 a1 o x s

def f39s0_l1_b (x8 : List (Int × Int)) (x12 : List (Int × Int × Int × Int × Int)) (again : (List Int) × (List Int) × (List Bool) → Option (((List Int)) ⊕ ((List (Int × Int)) × (List (Int × Int × Int × Int × Int))))) : (List Int) × (List Int) × (List Bool) → Option (((List Int)) ⊕ ((List (Int × Int)) × (List (Int × Int × Int × Int × Int))))
  | (x9, x10, x11) =>
    ((f39s0_l2 (ofN (List.length x8)) x9 x11 (2 + List.length x8 + List.length x9 + List.length x10 + List.length x11 + List.length x12) ((-1 : Int), (0 : Int))).bind fun o125 =>
      (bif (decide (o125 < (0 : Int))) then
        some (.inr (([] : List (Int × Int)), x12))
      else
        (bif (o125 == (wrapI .i64 ((ofN (List.length x8)) - (1 : Int)))) then
          some (.inl x10)
        else
          gd (0 ≤ o125) <|
          gd (o125 < ((List.length x11 : Nat) : Int)) <|
          gd ((toN o125) < List.length x11) <|
          ((f39s0_l4 x8 o125 (ofN (List.length x8)) (List.set x11 (toN o125) true) x12 (2 + List.length x8 + List.length (List.set x11 (toN o125) true) + List.length x12 + List.length x9 + List.length x10) ((0 : Int), x9, x10)).bind fun o180 =>
            again (o180.1, o180.2, (List.set x11 (toN o125) true))))))

def f39s0_l1 (x8 : List (Int × Int)) (x12 : List (Int × Int × Int × Int × Int)) : Nat → (List Int) × (List Int) × (List Bool) → Option (((List Int)) ⊕ ((List (Int × Int)) × (List (Int × Int × Int × Int × Int)))) := loopF (f39s0_l1_b x8 x12)

theorem f39s0_l1_ok (a1 : List (Int × Int × Int × Int × Int)) (x8 : List (Int × Int)) (x12 : List (Int × Int × Int × Int × Int)) (k : Nat) (x9 : List Int) (x10 : List Int) (x11 : List Bool) {out : (((List Int)) ⊕ ((List (Int × Int)) × (List (Int × Int × Int × Int × Int))))} (h : f39s0_l1 x8 x12 k (x9, x10, x11) = some out) : Run Pg 177 (bk1 (sq1 (sq2 (sq2 (sq2 (sq2 (sq2 (sq2 c_39)))))))) ⟨[(0, (.d t45 x8)), (1, (.fn 37 .vnil (.vcons (.ptr 1000000 0) .vnil))), (5, (.vec 202 t2)), (6, (.vec 302 t2)), (7, (.vec 402 t4))], [(202, (.vec 2 t2 x9)), (302, (.vec 3 t2 x10)), (402, (.vec 4 t4 x11)), (1000000, (.box (.vcons (.d t22 x12) .vnil)))]⟩ (f39s0_l1_post a1 x8 x12 out) := by
  refine Run.loopN (by kernel_rfl) (fun m s => ∃ x9 x10 x11, s = ⟨[(0, (.d t45 x8)), (1, (.fn 37 .vnil (.vcons (.ptr 1000000 0) .vnil))), (5, (.vec 202 t2)), (6, (.vec 302 t2)), (7, (.vec 402 t4))], [(202, (.vec 2 t2 x9)), (302, (.vec 3 t2 x10)), (402, (.vec 4 t4 x11)), (1000000, (.box (.vcons (.d t22 x12) .vnil)))]⟩ ∧ f39s0_l1 x8 x12 m (x9, x10, x11) = some out) ?_ k ⟨x9, x10, x11,  rfl, h⟩
  rintro m s ⟨x9, x10, x11,  rfl, h⟩
  cases m with
  | zero => cases h
  | succ m =>
  replace h : f39s0_l1_b x8 x12 (f39s0_l1 x8 x12 m) (x9, x10, x11) = some out := h
  unfold f39s0_l1_b at h
  refine Run.blockN 3 (by kernel_rfl) ?_
  refine Run.regN hX [] 1100 [0, 1, 5, 6, 7, 9] [202, 302, 402, 1000000] ⟨[(0, (.d t45 x8)), (1, (.fn 37 .vnil (.vcons (.ptr 1000000 0) .vnil))), (5, (.vec 202 t2)), (6, (.vec 302 t2)), (7, (.vec 402 t4)), (9, (.d t2 (-1 : Int)))], [(202, (.vec 2 t2 x9)), (302, (.vec 3 t2 x10)), (402, (.vec 4 t4 x11)), (1000000, (.box (.vcons (.d t22 x12) .vnil)))]⟩ [] (by kernel_rfl) (by kernel_rfl) trivial ?_
  refine Run.seqN (by kernel_rfl) ?_
  refine Run.regN hX [] 1200 [0, 1, 5, 6, 7, 9, 39, 40] [202, 302, 402, 1000000] ⟨[(0, (.d t45 x8)), (1, (.fn 37 .vnil (.vcons (.ptr 1000000 0) .vnil))), (5, (.vec 202 t2)), (6, (.vec 302 t2)), (7, (.vec 402 t4)), (9, (.d t2 (-1 : Int))), (39, (.d t2 (ofN (List.length x8)))), (40, (.d t2 (0 : Int)))], [(202, (.vec 2 t2 x9)), (302, (.vec 3 t2 x10)), (402, (.vec 4 t4 x11)), (1000000, (.box (.vcons (.d t22 x12) .vnil)))]⟩ [] (by kernel_rfl) (by kernel_rfl) trivial ?_
  refine Run.blockN 4 (by kernel_rfl) ?_
  obtain ⟨o125, h_o125, h⟩ := bnd_elim h
  refine Run.mono (f39s0_l2_ok x8 (ofN (List.length x8)) x9 x10 x11 x12 _ (-1 : Int) (0 : Int) h_o125) ?_
  rintro x s ⟨hx, hs⟩
  subst hx
  subst hs
  show Run Pg 177 _ _ _
  refine Run.seqN (by kernel_rfl) ?_
  refine Run.regN hX [] 1800 [0, 1, 5, 6, 7, 9, 73] [202, 302, 402, 1000000] ⟨[(0, (.d t45 x8)), (1, (.fn 37 .vnil (.vcons (.ptr 1000000 0) .vnil))), (5, (.vec 202 t2)), (6, (.vec 302 t2)), (7, (.vec 402 t4)), (9, (.d t2 o125)), (73, (.d t4 (decide (o125 < (0 : Int)))))], [(202, (.vec 2 t2 x9)), (302, (.vec 3 t2 x10)), (402, (.vec 4 t4 x11)), (1000000, (.box (.vcons (.d t22 x12) .vnil)))]⟩ [] (by kernel_rfl) (by kernel_rfl) trivial ?_
  refine Run.condN (decide (o125 < (0 : Int))) (by kernel_rfl) (fun hb => ?_) (fun hb => ?_)
  · replace h := bif_t h hb
    refine Run.regN hX [] 1900 [4] [1000000] ⟨[(4, .nil)], [(1000000, (.box (.vcons (.d t22 x12) .vnil)))]⟩ [] (by kernel_rfl) (by kernel_rfl) trivial ?_
    refine Run.retN (by kernel_rfl) ?_
    replace h := Option.some.inj h
    subst h
    exact ⟨rfl, [.nil], ⟨[], [(1000000, (.box (.vcons (.d t22 x12) .vnil)))]⟩, by kernel_rfl, by rw [nilOr_t rfl]; kernel_rfl, by kernel_rfl, by kernel_rfl⟩
  · replace h := bif_f h hb
    refine Run.skipN (by kernel_rfl) ?_
    show Run Pg 177 _ _ _
    refine Run.seqN (by kernel_rfl) ?_
    refine Run.regN hX [] 2000 [0, 1, 5, 6, 7, 9, 78] [202, 302, 402, 1000000] ⟨[(0, (.d t45 x8)), (1, (.fn 37 .vnil (.vcons (.ptr 1000000 0) .vnil))), (5, (.vec 202 t2)), (6, (.vec 302 t2)), (7, (.vec 402 t4)), (9, (.d t2 o125)), (78, (.d t4 (o125 == (wrapI .i64 ((ofN (List.length x8)) - (1 : Int))))))], [(202, (.vec 2 t2 x9)), (302, (.vec 3 t2 x10)), (402, (.vec 4 t4 x11)), (1000000, (.box (.vcons (.d t22 x12) .vnil)))]⟩ [] (by kernel_rfl) (by kernel_rfl) trivial ?_
    refine Run.condN (o125 == (wrapI .i64 ((ofN (List.length x8)) - (1 : Int)))) (by kernel_rfl) (fun hb => ?_) (fun hb => ?_)
    · replace h := bif_t h hb
      refine Run.keep (s' := ⟨[(0, (.d t45 x8)), (6, (.vec 302 t2))], [(302, (.vec 3 t2 x10)), (1000000, (.box (.vcons (.d t22 x12) .vnil)))]⟩) [0, 6] [302, 1000000] (by kernel_rfl) ?_
      refine Run.exitN 2 (by kernel_rfl) ?_
      replace h := Option.some.inj h
      subst h
      exact ⟨rfl, by kernel_rfl⟩
    · replace h := bif_f h hb
      refine Run.skipN (by kernel_rfl) ?_
      show Run Pg 177 _ _ _
      obtain ⟨g_0, h⟩ := gd_elim h
      obtain ⟨g_1, h⟩ := gd_elim h
      obtain ⟨g_2, h⟩ := gd_elim h
      refine Run.regN hX [] 2100 [0, 1, 5, 6, 7, 9] [202, 302, 402, 1000000] ⟨[(0, (.d t45 x8)), (1, (.fn 37 .vnil (.vcons (.ptr 1000000 0) .vnil))), (5, (.vec 202 t2)), (6, (.vec 302 t2)), (7, (.vec 402 t4)), (9, (.d t2 o125))], [(202, (.vec 2 t2 x9)), (302, (.vec 3 t2 x10)), (402, (.vec 4 t4 (List.set x11 (toN o125) true))), (1000000, (.box (.vcons (.d t22 x12) .vnil)))]⟩ [(0 ≤ o125), (o125 < ((List.length x11 : Nat) : Int)), ((toN o125) < List.length x11)] (by kernel_rfl) (by kernel_rfl) ⟨g_0, g_1, g_2, trivial⟩ ?_
      refine Run.regN hX [] 2200 [0, 1, 5, 6, 7, 9, 83, 84] [202, 302, 402, 1000000] ⟨[(0, (.d t45 x8)), (1, (.fn 37 .vnil (.vcons (.ptr 1000000 0) .vnil))), (5, (.vec 202 t2)), (6, (.vec 302 t2)), (7, (.vec 402 t4)), (9, (.d t2 o125)), (83, (.d t2 (ofN (List.length x8)))), (84, (.d t2 (0 : Int)))], [(202, (.vec 2 t2 x9)), (302, (.vec 3 t2 x10)), (402, (.vec 4 t4 (List.set x11 (toN o125) true))), (1000000, (.box (.vcons (.d t22 x12) .vnil)))]⟩ [] (by kernel_rfl) (by kernel_rfl) trivial ?_
      refine Run.blockN 6 (by kernel_rfl) ?_
      obtain ⟨o180, h_o180, h⟩ := bnd_elim h
      refine Run.mono (f39s0_l4_ok x8 o125 (ofN (List.length x8)) (List.set x11 (toN o125) true) x12 _ (0 : Int) x9 x10 h_o180) ?_
      rintro x s ⟨hx, hs⟩
      subst hx
      subst hs
      exact ⟨m, Nat.lt_succ_self m, _, _, _, rfl, h⟩

def f39s0_c8_post (x195 : List (Int × Int)) (x196 : Int) (x197 : Bool) (x198 : List Int) (x199 : List (Int × Int)) (x200 : List (Int × Int × Int × Int × Int)) : ((List (Int × Int))) → Ex → St → Prop
  | o, x, s => x = .nrm ∧ s = ⟨[(0, (.d t45 x195)), (6, (.vec 302 t2)), (13, (.vec 90013 t28)), (14, (.d t2 x196))], [(302, (.vec 3 t2 x198)), (90013, (.vec 38 t28 o)), (1000000, (.box (.vcons (.d t22 x200) .vnil)))]⟩

def f39s0_c8 (x195 : List (Int × Int)) (x196 : Int) (x197 : Bool) (x199 : List (Int × Int)) : Option ((List (Int × Int))) :=
  (bif x197 then
    gd (0 ≤ x196) <|
    gd (x196 < ((List.length x195 : Nat) : Int)) <|
    gd (List.length (x199 ++ ([(List.getD x195 (toN x196) ((0 : Int), (0 : Int)))] : List (Int × Int))) ≤ 1073741824) <|
    some (x199 ++ ([(List.getD x195 (toN x196) ((0 : Int), (0 : Int)))] : List (Int × Int)))
  else
    some x199)

theorem f39s0_c8_ok (x195 : List (Int × Int)) (x196 : Int) (x197 : Bool) (x198 : List Int) (x199 : List (Int × Int)) (x200 : List (Int × Int × Int × Int × Int)) {out : ((List (Int × Int)))} (h : f39s0_c8 x195 x196 x197 x199 = some out) : Run Pg 177 (sq2 (bk1 (sq1 (sq2 (lp1 (bk1 (sq2 (sq1 (sq2 (sq2 (sq2 (sq2 (sq2 (sq2 (sq2 (sq2 c_39)))))))))))))))) ⟨[(0, (.d t45 x195)), (6, (.vec 302 t2)), (13, (.vec 90013 t28)), (14, (.d t2 x196)), (166, (.d t4 x197))], [(302, (.vec 3 t2 x198)), (90013, (.vec 38 t28 x199)), (1000000, (.box (.vcons (.d t22 x200) .vnil)))]⟩ (f39s0_c8_post x195 x196 x197 x198 x199 x200 out) := by
  unfold f39s0_c8 at h
  refine Run.condN x197 (by kernel_rfl) (fun hb => ?_) (fun hb => ?_)
  · replace h := bif_t h hb
    obtain ⟨g_0, h⟩ := gd_elim h
    obtain ⟨g_1, h⟩ := gd_elim h
    obtain ⟨g_2, h⟩ := gd_elim h
    refine Run.regE hX [] 3400 [0, 6, 13, 14] [302, 90013, 1000000] ⟨[(0, (.d t45 x195)), (6, (.vec 302 t2)), (13, (.vec 90013 t28)), (14, (.d t2 x196))], [(302, (.vec 3 t2 x198)), (90013, (.vec 38 t28 (x199 ++ ([(List.getD x195 (toN x196) ((0 : Int), (0 : Int)))] : List (Int × Int))))), (1000000, (.box (.vcons (.d t22 x200) .vnil)))]⟩ [(0 ≤ x196), (x196 < ((List.length x195 : Nat) : Int)), (List.length (x199 ++ ([(List.getD x195 (toN x196) ((0 : Int), (0 : Int)))] : List (Int × Int))) ≤ 1073741824)] (by kernel_rfl) ⟨g_0, g_1, g_2, trivial⟩ ?_
    replace h := Option.some.inj h
    subst h
    exact ⟨rfl, by kernel_rfl⟩
  · replace h := bif_f h hb
    refine Run.keep (s' := ⟨[(0, (.d t45 x195)), (6, (.vec 302 t2)), (13, (.vec 90013 t28)), (14, (.d t2 x196))], [(302, (.vec 3 t2 x198)), (90013, (.vec 38 t28 x199)), (1000000, (.box (.vcons (.d t22 x200) .vnil)))]⟩) [0, 6, 13, 14] [302, 90013, 1000000] (by kernel_rfl) ?_
    refine Run.skipN (by kernel_rfl) ?_
    replace h := Option.some.inj h
    subst h
    exact ⟨rfl, by kernel_rfl⟩

def f39s0_l7_post (x183 : List (Int × Int)) (x185 : List Int) (x187 : List (Int × Int × Int × Int × Int)) : ((List (Int × Int))) → Ex → St → Prop
  | o, x, s => x = .out 8 ∧ s = ⟨[(13, (.vec 90013 t28))], [(90013, (.vec 38 t28 o)), (1000000, (.box (.vcons (.d t22 x187) .vnil)))]⟩

def f39s0_l7_b (x183 : List (Int × Int)) (x185 : List Int) (again : Int × (List (Int × Int)) → Option ((List (Int × Int)))) : Int × (List (Int × Int)) → Option ((List (Int × Int)))
  | (x184, x186) =>
    (bif (decide ((0 : Int) ≤ x184)) then
      (bif ((ofN (List.length x186)) == (0 : Int)) then
        gd (0 ≤ x184) <|
        gd (x184 < ((List.length x183 : Nat) : Int)) <|
        gd (List.length (x186 ++ ([(List.getD x183 (toN x184) ((0 : Int), (0 : Int)))] : List (Int × Int))) ≤ 1073741824) <|
        gd (0 ≤ x184) <|
        gd (x184 < ((List.length x185 : Nat) : Int)) <|
        gd ((toN x184) < List.length x185) <|
        again ((List.getD x185 (toN x184) (0 : Int)), (x186 ++ ([(List.getD x183 (toN x184) ((0 : Int), (0 : Int)))] : List (Int × Int))))
      else
        gd (0 ≤ (wrapI .i64 ((ofN (List.length x186)) - (1 : Int)))) <|
        gd ((wrapI .i64 ((ofN (List.length x186)) - (1 : Int))) < ((List.length x186 : Nat) : Int)) <|
        gd ((toN (wrapI .i64 ((ofN (List.length x186)) - (1 : Int)))) < List.length x186) <|
        gd (0 ≤ x184) <|
        gd (x184 < ((List.length x183 : Nat) : Int)) <|
        ((f39s0_c8 x183 x184 (!(eqD t28 (List.getD x186 (toN (wrapI .i64 ((ofN (List.length x186)) - (1 : Int)))) ((0 : Int), (0 : Int))) (List.getD x183 (toN x184) ((0 : Int), (0 : Int))))) x186).bind fun o201 =>
          gd (0 ≤ x184) <|
          gd (x184 < ((List.length x185 : Nat) : Int)) <|
          gd ((toN x184) < List.length x185) <|
          again ((List.getD x185 (toN x184) (0 : Int)), o201)))
    else
      some x186)

def f39s0_l7 (x183 : List (Int × Int)) (x185 : List Int) : Nat → Int × (List (Int × Int)) → Option ((List (Int × Int))) := loopF (f39s0_l7_b x183 x185)

theorem f39s0_l7_ok (x183 : List (Int × Int)) (x185 : List Int) (x187 : List (Int × Int × Int × Int × Int)) (k : Nat) (x184 : Int) (x186 : List (Int × Int)) {out : ((List (Int × Int)))} (h : f39s0_l7 x183 x185 k (x184, x186) = some out) : Run Pg 177 (bk1 (sq2 (sq1 (sq2 (sq2 (sq2 (sq2 (sq2 (sq2 (sq2 (sq2 c_39))))))))))) ⟨[(0, (.d t45 x183)), (6, (.vec 302 t2)), (13, (.vec 90013 t28)), (14, (.d t2 x184))], [(302, (.vec 3 t2 x185)), (90013, (.vec 38 t28 x186)), (1000000, (.box (.vcons (.d t22 x187) .vnil)))]⟩ (f39s0_l7_post x183 x185 x187 out) := by
  refine Run.loopN (by kernel_rfl) (fun m s => ∃ x184 x186, s = ⟨[(0, (.d t45 x183)), (6, (.vec 302 t2)), (13, (.vec 90013 t28)), (14, (.d t2 x184))], [(302, (.vec 3 t2 x185)), (90013, (.vec 38 t28 x186)), (1000000, (.box (.vcons (.d t22 x187) .vnil)))]⟩ ∧ f39s0_l7 x183 x185 m (x184, x186) = some out) ?_ k ⟨x184, x186,  rfl, h⟩
  rintro m s ⟨x184, x186,  rfl, h⟩
  cases m with
  | zero => cases h
  | succ m =>
  replace h : f39s0_l7_b x183 x185 (f39s0_l7 x183 x185 m) (x184, x186) = some out := h
  unfold f39s0_l7_b at h
  refine Run.seqN (by kernel_rfl) ?_
  refine Run.regN hX [] 3100 [0, 6, 13, 14, 146] [302, 90013, 1000000] ⟨[(0, (.d t45 x183)), (6, (.vec 302 t2)), (13, (.vec 90013 t28)), (14, (.d t2 x184)), (146, (.d t4 (decide ((0 : Int) ≤ x184))))], [(302, (.vec 3 t2 x185)), (90013, (.vec 38 t28 x186)), (1000000, (.box (.vcons (.d t22 x187) .vnil)))]⟩ [] (by kernel_rfl) (by kernel_rfl) trivial ?_
  refine Run.condN (decide ((0 : Int) ≤ x184)) (by kernel_rfl) (fun hb => ?_) (fun hb => ?_)
  · replace h := bif_t h hb
    refine Run.skipN (by kernel_rfl) ?_
    show Run Pg 177 _ _ _
    refine Run.seqN (by kernel_rfl) ?_
    refine Run.blockN 9 (by kernel_rfl) ?_
    rcases bif_elim h with ⟨hb0, h⟩ | ⟨hb0, h⟩
    · refine Run.regN hX [(3, .b true)] 3300 [0, 6, 13, 14, 166] [302, 90013, 1000000] ⟨[(0, (.d t45 x183)), (6, (.vec 302 t2)), (13, (.vec 90013 t28)), (14, (.d t2 x184)), (166, (.d t4 true))], [(302, (.vec 3 t2 x185)), (90013, (.vec 38 t28 x186)), (1000000, (.box (.vcons (.d t22 x187) .vnil)))]⟩ [((ofN (List.length x186)) == (0 : Int)) = true] (by kernel_rfl) (by kernel_rfl) ⟨hb0, trivial⟩ ?_
      refine Run.condN true (by kernel_rfl) (fun hb => ?_) (fun hb => (by cases hb))
      obtain ⟨g_0, h⟩ := gd_elim h
      obtain ⟨g_1, h⟩ := gd_elim h
      obtain ⟨g_2, h⟩ := gd_elim h
      refine Run.regE hX [] 3400 [0, 6, 13, 14] [302, 90013, 1000000] ⟨[(0, (.d t45 x183)), (6, (.vec 302 t2)), (13, (.vec 90013 t28)), (14, (.d t2 x184))], [(302, (.vec 3 t2 x185)), (90013, (.vec 38 t28 (x186 ++ ([(List.getD x183 (toN x184) ((0 : Int), (0 : Int)))] : List (Int × Int))))), (1000000, (.box (.vcons (.d t22 x187) .vnil)))]⟩ [(0 ≤ x184), (x184 < ((List.length x183 : Nat) : Int)), (List.length (x186 ++ ([(List.getD x183 (toN x184) ((0 : Int), (0 : Int)))] : List (Int × Int))) ≤ 1073741824)] (by kernel_rfl) ⟨g_0, g_1, g_2, trivial⟩ ?_
      show Run Pg 177 _ _ _
      obtain ⟨g_0, h⟩ := gd_elim h
      obtain ⟨g_1, h⟩ := gd_elim h
      obtain ⟨g_2, h⟩ := gd_elim h
      refine Run.regE hX [] 3200 [0, 6, 13, 14] [302, 90013, 1000000] ⟨[(0, (.d t45 x183)), (6, (.vec 302 t2)), (13, (.vec 90013 t28)), (14, (.d t2 (List.getD x185 (toN x184) (0 : Int))))], [(302, (.vec 3 t2 x185)), (90013, (.vec 38 t28 (x186 ++ ([(List.getD x183 (toN x184) ((0 : Int), (0 : Int)))] : List (Int × Int))))), (1000000, (.box (.vcons (.d t22 x187) .vnil)))]⟩ [(0 ≤ x184), (x184 < ((List.length x185 : Nat) : Int)), ((toN x184) < List.length x185)] (by kernel_rfl) ⟨g_0, g_1, g_2, trivial⟩ ?_
      exact ⟨m, Nat.lt_succ_self m, _, _, rfl, h⟩
    · obtain ⟨g_1, h⟩ := gd_elim h
      obtain ⟨g_2, h⟩ := gd_elim h
      obtain ⟨g_3, h⟩ := gd_elim h
      obtain ⟨g_4, h⟩ := gd_elim h
      obtain ⟨g_5, h⟩ := gd_elim h
      refine Run.regN hX [(3, .b false)] 3300 [0, 6, 13, 14, 166] [302, 90013, 1000000] ⟨[(0, (.d t45 x183)), (6, (.vec 302 t2)), (13, (.vec 90013 t28)), (14, (.d t2 x184)), (166, (.d t4 (!(eqD t28 (List.getD x186 (toN (wrapI .i64 ((ofN (List.length x186)) - (1 : Int)))) ((0 : Int), (0 : Int))) (List.getD x183 (toN x184) ((0 : Int), (0 : Int)))))))], [(302, (.vec 3 t2 x185)), (90013, (.vec 38 t28 x186)), (1000000, (.box (.vcons (.d t22 x187) .vnil)))]⟩ [((ofN (List.length x186)) == (0 : Int)) = false, (0 ≤ (wrapI .i64 ((ofN (List.length x186)) - (1 : Int)))), ((wrapI .i64 ((ofN (List.length x186)) - (1 : Int))) < ((List.length x186 : Nat) : Int)), ((toN (wrapI .i64 ((ofN (List.length x186)) - (1 : Int)))) < List.length x186), (0 ≤ x184), (x184 < ((List.length x183 : Nat) : Int))] (by kernel_rfl) (by kernel_rfl) ⟨hb0, g_1, g_2, g_3, g_4, g_5, trivial⟩ ?_
      obtain ⟨o201, h_o201, h⟩ := bnd_elim h
      refine Run.mono (f39s0_c8_ok x183 x184 (!(eqD t28 (List.getD x186 (toN (wrapI .i64 ((ofN (List.length x186)) - (1 : Int)))) ((0 : Int), (0 : Int))) (List.getD x183 (toN x184) ((0 : Int), (0 : Int))))) x185 x186 x187 h_o201) ?_
      rintro x s ⟨hx, hs⟩
      subst hx
      subst hs
      show Run Pg 177 _ _ _
      obtain ⟨g_0, h⟩ := gd_elim h
      obtain ⟨g_1, h⟩ := gd_elim h
      obtain ⟨g_2, h⟩ := gd_elim h
      refine Run.regE hX [] 3200 [0, 6, 13, 14] [302, 90013, 1000000] ⟨[(0, (.d t45 x183)), (6, (.vec 302 t2)), (13, (.vec 90013 t28)), (14, (.d t2 (List.getD x185 (toN x184) (0 : Int))))], [(302, (.vec 3 t2 x185)), (90013, (.vec 38 t28 o201)), (1000000, (.box (.vcons (.d t22 x187) .vnil)))]⟩ [(0 ≤ x184), (x184 < ((List.length x185 : Nat) : Int)), ((toN x184) < List.length x185)] (by kernel_rfl) ⟨g_0, g_1, g_2, trivial⟩ ?_
      exact ⟨m, Nat.lt_succ_self m, _, _, rfl, h⟩
  · replace h := bif_f h hb
    refine Run.keep (s' := ⟨[(13, (.vec 90013 t28))], [(90013, (.vec 38 t28 x186)), (1000000, (.box (.vcons (.d t22 x187) .vnil)))]⟩) [13] [90013, 1000000] (by kernel_rfl) ?_
    refine Run.exitN 8 (by kernel_rfl) ?_
    replace h := Option.some.inj h
    subst h
    exact ⟨rfl, by kernel_rfl⟩

def F39s0 (a0 : List (Int × Int)) (a1 : List (Int × Int × Int × Int × Int)) : Option ((List (Int × Int)) × (List (Int × Int × Int × Int × Int))) :=
  gd (0 ≤ (ofN (List.length a0))) <|
  gd ((ofN (List.length a0)) ≤ (ofN (List.length a0))) <|
  gd ((ofN (List.length a0)) ≤ 1073741824) <|
  gd (0 ≤ (ofN (List.length a0))) <|
  gd ((ofN (List.length a0)) ≤ (ofN (List.length a0))) <|
  gd ((ofN (List.length a0)) ≤ 1073741824) <|
  gd (0 ≤ (ofN (List.length a0))) <|
  gd ((ofN (List.length a0)) ≤ (ofN (List.length a0))) <|
  gd ((ofN (List.length a0)) ≤ 1073741824) <|
  ((f39s0_l0 (ofN (List.length (List.replicate (toN (ofN (List.length a0))) (0 : Int)))) (2 + List.length a0 + List.length (List.replicate (toN (ofN (List.length a0))) false) + List.length a1 + List.length (List.replicate (toN (ofN (List.length a0))) (0 : Int))) ((0 : Int), (List.replicate (toN (ofN (List.length a0))) (0 : Int)))).bind fun o7 =>
    gd ((0 : Int) < ((List.length o7 : Nat) : Int)) <|
    gd ((toN (0 : Int)) < List.length o7) <|
    ((f39s0_l1 a0 a1 (2 + List.length a0 + List.length a1 + List.length (List.set o7 (toN (0 : Int)) (0 : Int)) + List.length o7 + List.length (List.replicate (toN (ofN (List.length a0))) false)) ((List.set o7 (toN (0 : Int)) (0 : Int)), o7, (List.replicate (toN (ofN (List.length a0))) false))).bind fun o181 => match o181 with
      | .inl o182 =>
          ((f39s0_l7 a0 o182 (2 + List.length a0 + List.length o182 + List.length a1 + List.length ([] : List (Int × Int))) ((wrapI .i64 ((ofN (List.length a0)) - (1 : Int))), ([] : List (Int × Int)))).bind fun o202 =>
            (F56s0 o202).bind fun y203 =>
            gd (List.isEmpty y203 = false) <|
            some (y203, a1))
      | .inr o204 =>
          some o204))

theorem c39s0 {a0 : List (Int × Int)} {a1 : List (Int × Int × Int × Int × Int)} {r : (List (Int × Int)) × (List (Int × Int × Int × Int × Int))} (h : F39s0 a0 a1 = some r) : CallSt Pg 39 [(.d t45 a0), (.fn 37 .vnil (.vcons (.ptr 1000000 0) .vnil))] [(1000000, (.box (.vcons (.d t22 a1) .vnil)))] (nilOr t28 r.1) [(1000000, (.box (.vcons (.d t22 r.2) .vnil)))] := by
  refine callStN hX c_39 177 [.tmp 4] [99999] Go.Proofs.Try.func39 (by kernel_rfl) (by kernel_rfl) (by kernel_rfl) (Nat.le_of_ble_eq_true rfl) nilOr_pure ?_
  show Run Pg 177 c_39 ⟨[(0, (.d t45 a0)), (1, (.fn 37 .vnil (.vcons (.ptr 1000000 0) .vnil)))], [(1000000, (.box (.vcons (.d t22 a1) .vnil)))]⟩ (fin39s0 a1 r)
  unfold F39s0 at h
  refine Run.regN hX [] 100 [0, 1] [1000000] ⟨[(0, (.d t45 a0)), (1, (.fn 37 .vnil (.vcons (.ptr 1000000 0) .vnil)))], [(1000000, (.box (.vcons (.d t22 a1) .vnil)))]⟩ [] (by kernel_rfl) (by kernel_rfl) trivial ?_
  obtain ⟨g_0, h⟩ := gd_elim h
  obtain ⟨g_1, h⟩ := gd_elim h
  obtain ⟨g_2, h⟩ := gd_elim h
  refine Run.regN hX [] 200 [0, 1, 5] [202, 1000000] ⟨[(0, (.d t45 a0)), (1, (.fn 37 .vnil (.vcons (.ptr 1000000 0) .vnil))), (5, (.vec 202 t2))], [(202, (.vec 2 t2 (List.replicate (toN (ofN (List.length a0))) (0 : Int)))), (1000000, (.box (.vcons (.d t22 a1) .vnil)))]⟩ [(0 ≤ (ofN (List.length a0))), ((ofN (List.length a0)) ≤ (ofN (List.length a0))), ((ofN (List.length a0)) ≤ 1073741824)] (by kernel_rfl) (by kernel_rfl) ⟨g_0, g_1, g_2, trivial⟩ ?_
  obtain ⟨g_0, h⟩ := gd_elim h
  obtain ⟨g_1, h⟩ := gd_elim h
  obtain ⟨g_2, h⟩ := gd_elim h
  refine Run.regN hX [] 300 [0, 1, 5, 6] [202, 302, 1000000] ⟨[(0, (.d t45 a0)), (1, (.fn 37 .vnil (.vcons (.ptr 1000000 0) .vnil))), (5, (.vec 202 t2)), (6, (.vec 302 t2))], [(202, (.vec 2 t2 (List.replicate (toN (ofN (List.length a0))) (0 : Int)))), (302, (.vec 3 t2 (List.replicate (toN (ofN (List.length a0))) (0 : Int)))), (1000000, (.box (.vcons (.d t22 a1) .vnil)))]⟩ [(0 ≤ (ofN (List.length a0))), ((ofN (List.length a0)) ≤ (ofN (List.length a0))), ((ofN (List.length a0)) ≤ 1073741824)] (by kernel_rfl) (by kernel_rfl) ⟨g_0, g_1, g_2, trivial⟩ ?_
  obtain ⟨g_0, h⟩ := gd_elim h
  obtain ⟨g_1, h⟩ := gd_elim h
  obtain ⟨g_2, h⟩ := gd_elim h
  refine Run.regN hX [] 400 [0, 1, 5, 6, 7] [202, 302, 402, 1000000] ⟨[(0, (.d t45 a0)), (1, (.fn 37 .vnil (.vcons (.ptr 1000000 0) .vnil))), (5, (.vec 202 t2)), (6, (.vec 302 t2)), (7, (.vec 402 t4))], [(202, (.vec 2 t2 (List.replicate (toN (ofN (List.length a0))) (0 : Int)))), (302, (.vec 3 t2 (List.replicate (toN (ofN (List.length a0))) (0 : Int)))), (402, (.vec 4 t4 (List.replicate (toN (ofN (List.length a0))) false))), (1000000, (.box (.vcons (.d t22 a1) .vnil)))]⟩ [(0 ≤ (ofN (List.length a0))), ((ofN (List.length a0)) ≤ (ofN (List.length a0))), ((ofN (List.length a0)) ≤ 1073741824)] (by kernel_rfl) (by kernel_rfl) ⟨g_0, g_1, g_2, trivial⟩ ?_
  refine Run.seqN (by kernel_rfl) ?_
  refine Run.regN hX [] 500 [0, 1, 5, 6, 7, 25, 26] [202, 302, 402, 1000000] ⟨[(0, (.d t45 a0)), (1, (.fn 37 .vnil (.vcons (.ptr 1000000 0) .vnil))), (5, (.vec 202 t2)), (6, (.vec 302 t2)), (7, (.vec 402 t4)), (25, (.d t2 (ofN (List.length (List.replicate (toN (ofN (List.length a0))) (0 : Int)))))), (26, (.d t2 (0 : Int)))], [(202, (.vec 2 t2 (List.replicate (toN (ofN (List.length a0))) (0 : Int)))), (302, (.vec 3 t2 (List.replicate (toN (ofN (List.length a0))) (0 : Int)))), (402, (.vec 4 t4 (List.replicate (toN (ofN (List.length a0))) false))), (1000000, (.box (.vcons (.d t22 a1) .vnil)))]⟩ [] (by kernel_rfl) (by kernel_rfl) trivial ?_
  refine Run.blockN 0 (by kernel_rfl) ?_
  obtain ⟨o7, h_o7, h⟩ := bnd_elim h
  refine Run.mono (f39s0_l0_ok a0 (ofN (List.length (List.replicate (toN (ofN (List.length a0))) (0 : Int)))) (List.replicate (toN (ofN (List.length a0))) false) a1 _ (0 : Int) (List.replicate (toN (ofN (List.length a0))) (0 : Int)) h_o7) ?_
  rintro x s ⟨hx, hs⟩
  subst hx
  subst hs
  show Run Pg 177 _ _ _
  obtain ⟨g_1, h⟩ := gd_elim h
  obtain ⟨g_2, h⟩ := gd_elim h
  refine Run.regN hX [] 1000 [0, 1, 5, 6, 7] [202, 302, 402, 1000000] ⟨[(0, (.d t45 a0)), (1, (.fn 37 .vnil (.vcons (.ptr 1000000 0) .vnil))), (5, (.vec 202 t2)), (6, (.vec 302 t2)), (7, (.vec 402 t4))], [(202, (.vec 2 t2 (List.set o7 (toN (0 : Int)) (0 : Int)))), (302, (.vec 3 t2 o7)), (402, (.vec 4 t4 (List.replicate (toN (ofN (List.length a0))) false))), (1000000, (.box (.vcons (.d t22 a1) .vnil)))]⟩ [(0 ≤ (0 : Int)), ((0 : Int) < ((List.length o7 : Nat) : Int)), ((toN (0 : Int)) < List.length o7)] (by kernel_rfl) (by kernel_rfl) ⟨(by decide), g_1, g_2, trivial⟩ ?_
  refine Run.seqN (by kernel_rfl) ?_
  refine Run.blockN 2 (by kernel_rfl) ?_
  obtain ⟨o181, h_o181, h⟩ := bnd_elim h
  refine Run.mono (f39s0_l1_ok a1 a0 a1 _ (List.set o7 (toN (0 : Int)) (0 : Int)) o7 (List.replicate (toN (ofN (List.length a0))) false) h_o181) ?_
  rcases o181 with o182 | o204
  · rintro x s ⟨hx, hs⟩
    subst hx
    subst hs
    show Run Pg 177 _ _ _
    refine Run.regN hX [] 2900 [0, 6, 13] [302, 1000000] ⟨[(0, (.d t45 a0)), (6, (.vec 302 t2)), (13, .nil)], [(302, (.vec 3 t2 o182)), (1000000, (.box (.vcons (.d t22 a1) .vnil)))]⟩ [] (by kernel_rfl) (by kernel_rfl) trivial ?_
    refine Run.seqN (by kernel_rfl) ?_
    refine Run.regN hX [] 3000 [0, 6, 13, 14] [302, 1000000] ⟨[(0, (.d t45 a0)), (6, (.vec 302 t2)), (13, .nil), (14, (.d t2 (wrapI .i64 ((ofN (List.length a0)) - (1 : Int)))))], [(302, (.vec 3 t2 o182)), (1000000, (.box (.vcons (.d t22 a1) .vnil)))]⟩ [] (by kernel_rfl) (by kernel_rfl) trivial ?_
    refine Run.blockN 8 (by kernel_rfl) ?_
    refine Run.name (s' := ⟨[(13, (.vec 90013 t28)), (0, (.d t45 a0)), (6, (.vec 302 t2)), (13, .nil), (14, (.d t2 (wrapI .i64 ((ofN (List.length a0)) - (1 : Int)))))], [(90013, (.vec 38 t28 [])), (302, (.vec 3 t2 o182)), (1000000, (.box (.vcons (.d t22 a1) .vnil)))]⟩) 13 90013 38 t28 (by kernel_rfl) ?_
    refine Run.keep (s' := ⟨[(0, (.d t45 a0)), (6, (.vec 302 t2)), (13, (.vec 90013 t28)), (14, (.d t2 (wrapI .i64 ((ofN (List.length a0)) - (1 : Int)))))], [(302, (.vec 3 t2 o182)), (90013, (.vec 38 t28 ([] : List (Int × Int)))), (1000000, (.box (.vcons (.d t22 a1) .vnil)))]⟩) [0, 6, 13, 14] [302, 90013, 1000000] (by kernel_rfl) ?_
    obtain ⟨o202, h_o202, h⟩ := bnd_elim h
    refine Run.mono (f39s0_l7_ok a0 o182 a1 _ (wrapI .i64 ((ofN (List.length a0)) - (1 : Int))) ([] : List (Int × Int)) h_o202) ?_
    rintro x s ⟨hx, hs⟩
    subst hx
    subst hs
    show Run Pg 177 _ _ _
    obtain ⟨y203, h_y203, h⟩ := bnd_elim h
    refine Run.regN hX [(1, .callS [(1000000, (.vec 38 t28 o202))] [(.vec 1000000 t28)] [(1000000, 90013)] (.tup .vnil) [(1000000, (.vec 38 t28 y203))])] 3500 [13] [90013, 1000000] ⟨[(13, (.vec 90013 t28))], [(90013, (.vec 38 t28 y203)), (1000000, (.box (.vcons (.d t22 a1) .vnil)))]⟩ [(([(.vec 90013 t28)] : List V) = List.map (V.ren (renL [(1000000, 90013)] 3501)) [(.vec 1000000 t28)]), CallSt Pg 56 [(.vec 1000000 t28)] [(1000000, (.vec 38 t28 o202))] (.tup .vnil) [(1000000, (.vec 38 t28 y203))], ((some (.vec 38 t28 o202) : Option E) = some (E.ren (renL [(1000000, 90013)] 3501) (.vec 38 t28 o202)))] (by kernel_rfl) (by kernel_rfl) ⟨(by kernel_rfl), (c56s0 h_y203), (by kernel_rfl), trivial⟩ ?_
    refine Run.regN hX [] 3600 [4] [90013, 1000000] ⟨[(4, (.vec 90013 t28))], [(90013, (.vec 38 t28 y203)), (1000000, (.box (.vcons (.d t22 a1) .vnil)))]⟩ [] (by kernel_rfl) (by kernel_rfl) trivial ?_
    refine Run.freeze (s' := ⟨[(4, (.d t45 y203))], [(1000000, (.box (.vcons (.d t22 a1) .vnil)))]⟩) 90013 (by kernel_rfl) ?_
    refine Run.retN (by kernel_rfl) ?_
    obtain ⟨g_n, h⟩ := gd_elim h
    replace h := Option.some.inj h
    subst h
    exact ⟨[(.d t45 y203)], ⟨[], [(1000000, (.box (.vcons (.d t22 a1) .vnil)))]⟩, by kernel_rfl, by rw [nilOr_f g_n]; kernel_rfl, by kernel_rfl, by kernel_rfl⟩
  · rintro x s ⟨hx, hr⟩
    subst hx
    replace h := Option.some.inj h
    subst h
    exact hr

/-! ## f14 -/

noncomputable def c_14 : Code := body0 Go.Proofs.Try.f14

def fin14 (r : (List (Int × Int)) × Int) : Ex → St → Prop := endK X0 [.tmp 6, .tmp 7] [45, 32] (.tup (.vcons (.d t45 r.1) (.vcons (.d t2 r.2) .vnil)))

def f14_l0_post (x6 : List (Int × Int × Int × Int × Int)) (x7 : Int) (x9 : Int × Int) : ((List (Int × Int))) → Ex → St → Prop
  | o, x, s => x = .out 0 ∧ s = ⟨[(5, (.ptr 102 0)), (8, (.fn 37 .vnil (.vcons (.ptr 100 0) .vnil))), (9, (.vec 1301 t28))], [(100, (.box (.vcons (.d t22 x6) .vnil))), (102, (.box (.vcons (.d t28 x9) .vnil))), (1301, (.vec 38 t28 o))]⟩

def f14_l0_b (x6 : List (Int × Int × Int × Int × Int)) (x7 : Int) (again : Int × (List (Int × Int)) → Option ((List (Int × Int)))) : Int × (List (Int × Int)) → Option ((List (Int × Int)))
  | (x8, x10) =>
    (bif (decide (x8 < x7)) then
      gd (0 ≤ x8) <|
      gd (x8 < ((List.length x6 : Nat) : Int)) <|
      gd (List.length (x10 ++ ([((List.getD x6 (toN x8) ((0 : Int), (0 : Int), (0 : Int), (0 : Int), (0 : Int))).1, (List.getD x6 (toN x8) ((0 : Int), (0 : Int), (0 : Int), (0 : Int), (0 : Int))).2.1), ((List.getD x6 (toN x8) ((0 : Int), (0 : Int), (0 : Int), (0 : Int), (0 : Int))).2.2.1, (List.getD x6 (toN x8) ((0 : Int), (0 : Int), (0 : Int), (0 : Int), (0 : Int))).2.1), ((List.getD x6 (toN x8) ((0 : Int), (0 : Int), (0 : Int), (0 : Int), (0 : Int))).2.2.1, (List.getD x6 (toN x8) ((0 : Int), (0 : Int), (0 : Int), (0 : Int), (0 : Int))).2.2.2.1), ((List.getD x6 (toN x8) ((0 : Int), (0 : Int), (0 : Int), (0 : Int), (0 : Int))).1, (List.getD x6 (toN x8) ((0 : Int), (0 : Int), (0 : Int), (0 : Int), (0 : Int))).2.2.2.1)] : List (Int × Int))) ≤ 1073741824) <|
      again ((wrapI .i64 (x8 + (1 : Int))), (x10 ++ ([((List.getD x6 (toN x8) ((0 : Int), (0 : Int), (0 : Int), (0 : Int), (0 : Int))).1, (List.getD x6 (toN x8) ((0 : Int), (0 : Int), (0 : Int), (0 : Int), (0 : Int))).2.1), ((List.getD x6 (toN x8) ((0 : Int), (0 : Int), (0 : Int), (0 : Int), (0 : Int))).2.2.1, (List.getD x6 (toN x8) ((0 : Int), (0 : Int), (0 : Int), (0 : Int), (0 : Int))).2.1), ((List.getD x6 (toN x8) ((0 : Int), (0 : Int), (0 : Int), (0 : Int), (0 : Int))).2.2.1, (List.getD x6 (toN x8) ((0 : Int), (0 : Int), (0 : Int), (0 : Int), (0 : Int))).2.2.2.1), ((List.getD x6 (toN x8) ((0 : Int), (0 : Int), (0 : Int), (0 : Int), (0 : Int))).1, (List.getD x6 (toN x8) ((0 : Int), (0 : Int), (0 : Int), (0 : Int), (0 : Int))).2.2.2.1)] : List (Int × Int))))
    else
      some x10)

def f14_l0 (x6 : List (Int × Int × Int × Int × Int)) (x7 : Int) : Nat → Int × (List (Int × Int)) → Option ((List (Int × Int))) := loopF (f14_l0_b x6 x7)

theorem f14_l0_ok (x6 : List (Int × Int × Int × Int × Int)) (x7 : Int) (x9 : Int × Int) (k : Nat) (x8 : Int) (x10 : List (Int × Int)) {out : ((List (Int × Int)))} (h : f14_l0 x6 x7 k (x8, x10) = some out) : Run Pg 92 (bk1 (sq2 (sq1 (sq2 (sq2 (sq2 (sq2 (sq2 (sq2 (sq2 (sq2 c_14))))))))))) ⟨[(5, (.ptr 102 0)), (8, (.fn 37 .vnil (.vcons (.ptr 100 0) .vnil))), (9, (.vec 1301 t28)), (52, (.d t22 x6)), (53, (.d t2 x7)), (54, (.d t2 x8))], [(100, (.box (.vcons (.d t22 x6) .vnil))), (102, (.box (.vcons (.d t28 x9) .vnil))), (1301, (.vec 38 t28 x10))]⟩ (f14_l0_post x6 x7 x9 out) := by
  refine Run.loopN (by kernel_rfl) (fun m s => ∃ x8 x10, s = ⟨[(5, (.ptr 102 0)), (8, (.fn 37 .vnil (.vcons (.ptr 100 0) .vnil))), (9, (.vec 1301 t28)), (52, (.d t22 x6)), (53, (.d t2 x7)), (54, (.d t2 x8))], [(100, (.box (.vcons (.d t22 x6) .vnil))), (102, (.box (.vcons (.d t28 x9) .vnil))), (1301, (.vec 38 t28 x10))]⟩ ∧ f14_l0 x6 x7 m (x8, x10) = some out) ?_ k ⟨x8, x10,  rfl, h⟩
  rintro m s ⟨x8, x10,  rfl, h⟩
  cases m with
  | zero => cases h
  | succ m =>
  replace h : f14_l0_b x6 x7 (f14_l0 x6 x7 m) (x8, x10) = some out := h
  unfold f14_l0_b at h
  refine Run.regN hX [] 1500 [5, 8, 9, 52, 53, 54, 55] [100, 102, 1301] ⟨[(5, (.ptr 102 0)), (8, (.fn 37 .vnil (.vcons (.ptr 100 0) .vnil))), (9, (.vec 1301 t28)), (52, (.d t22 x6)), (53, (.d t2 x7)), (54, (.d t2 x8)), (55, (.d t4 (decide (x8 < x7))))], [(100, (.box (.vcons (.d t22 x6) .vnil))), (102, (.box (.vcons (.d t28 x9) .vnil))), (1301, (.vec 38 t28 x10))]⟩ [] (by kernel_rfl) (by kernel_rfl) trivial ?_
  refine Run.seqN (by kernel_rfl) ?_
  refine Run.condN (decide (x8 < x7)) (by kernel_rfl) (fun hb => ?_) (fun hb => ?_)
  · replace h := bif_t h hb
    refine Run.skipN (by kernel_rfl) ?_
    show Run Pg 92 _ _ _
    refine Run.seqN (by kernel_rfl) ?_
    refine Run.blockN 1 (by kernel_rfl) ?_
    obtain ⟨g_0, h⟩ := gd_elim h
    obtain ⟨g_1, h⟩ := gd_elim h
    refine Run.regN hX [] 1600 [5, 8, 9, 11, 52, 53, 54] [100, 102, 1301, 1602] ⟨[(5, (.ptr 102 0)), (8, (.fn 37 .vnil (.vcons (.ptr 100 0) .vnil))), (9, (.vec 1301 t28)), (11, (.ptr 1602 0)), (52, (.d t22 x6)), (53, (.d t2 x7)), (54, (.d t2 x8))], [(100, (.box (.vcons (.d t22 x6) .vnil))), (102, (.box (.vcons (.d t28 x9) .vnil))), (1301, (.vec 38 t28 x10)), (1602, (.box (.vcons (.d t55 (List.getD x6 (toN x8) ((0 : Int), (0 : Int), (0 : Int), (0 : Int), (0 : Int)))) .vnil)))]⟩ [(0 ≤ x8), (x8 < ((List.length x6 : Nat) : Int))] (by kernel_rfl) (by kernel_rfl) ⟨g_0, g_1, trivial⟩ ?_
    obtain ⟨g_0, h⟩ := gd_elim h
    refine Run.regE hX [] 1700 [5, 8, 9, 52, 53, 54] [100, 102, 1301] ⟨[(5, (.ptr 102 0)), (8, (.fn 37 .vnil (.vcons (.ptr 100 0) .vnil))), (9, (.vec 1301 t28)), (52, (.d t22 x6)), (53, (.d t2 x7)), (54, (.d t2 x8))], [(100, (.box (.vcons (.d t22 x6) .vnil))), (102, (.box (.vcons (.d t28 x9) .vnil))), (1301, (.vec 38 t28 (x10 ++ ([((List.getD x6 (toN x8) ((0 : Int), (0 : Int), (0 : Int), (0 : Int), (0 : Int))).1, (List.getD x6 (toN x8) ((0 : Int), (0 : Int), (0 : Int), (0 : Int), (0 : Int))).2.1), ((List.getD x6 (toN x8) ((0 : Int), (0 : Int), (0 : Int), (0 : Int), (0 : Int))).2.2.1, (List.getD x6 (toN x8) ((0 : Int), (0 : Int), (0 : Int), (0 : Int), (0 : Int))).2.1), ((List.getD x6 (toN x8) ((0 : Int), (0 : Int), (0 : Int), (0 : Int), (0 : Int))).2.2.1, (List.getD x6 (toN x8) ((0 : Int), (0 : Int), (0 : Int), (0 : Int), (0 : Int))).2.2.2.1), ((List.getD x6 (toN x8) ((0 : Int), (0 : Int), (0 : Int), (0 : Int), (0 : Int))).1, (List.getD x6 (toN x8) ((0 : Int), (0 : Int), (0 : Int), (0 : Int), (0 : Int))).2.2.2.1)] : List (Int × Int)))))]⟩ [(List.length (x10 ++ ([((List.getD x6 (toN x8) ((0 : Int), (0 : Int), (0 : Int), (0 : Int), (0 : Int))).1, (List.getD x6 (toN x8) ((0 : Int), (0 : Int), (0 : Int), (0 : Int), (0 : Int))).2.1), ((List.getD x6 (toN x8) ((0 : Int), (0 : Int), (0 : Int), (0 : Int), (0 : Int))).2.2.1, (List.getD x6 (toN x8) ((0 : Int), (0 : Int), (0 : Int), (0 : Int), (0 : Int))).2.1), ((List.getD x6 (toN x8) ((0 : Int), (0 : Int), (0 : Int), (0 : Int), (0 : Int))).2.2.1, (List.getD x6 (toN x8) ((0 : Int), (0 : Int), (0 : Int), (0 : Int), (0 : Int))).2.2.2.1), ((List.getD x6 (toN x8) ((0 : Int), (0 : Int), (0 : Int), (0 : Int), (0 : Int))).1, (List.getD x6 (toN x8) ((0 : Int), (0 : Int), (0 : Int), (0 : Int), (0 : Int))).2.2.2.1)] : List (Int × Int))) ≤ 1073741824)] (by kernel_rfl) ⟨g_0, trivial⟩ ?_
    show Run Pg 92 _ _ _
    refine Run.regE hX [] 1800 [5, 8, 9, 52, 53, 54] [100, 102, 1301] ⟨[(5, (.ptr 102 0)), (8, (.fn 37 .vnil (.vcons (.ptr 100 0) .vnil))), (9, (.vec 1301 t28)), (52, (.d t22 x6)), (53, (.d t2 x7)), (54, (.d t2 (wrapI .i64 (x8 + (1 : Int)))))], [(100, (.box (.vcons (.d t22 x6) .vnil))), (102, (.box (.vcons (.d t28 x9) .vnil))), (1301, (.vec 38 t28 (x10 ++ ([((List.getD x6 (toN x8) ((0 : Int), (0 : Int), (0 : Int), (0 : Int), (0 : Int))).1, (List.getD x6 (toN x8) ((0 : Int), (0 : Int), (0 : Int), (0 : Int), (0 : Int))).2.1), ((List.getD x6 (toN x8) ((0 : Int), (0 : Int), (0 : Int), (0 : Int), (0 : Int))).2.2.1, (List.getD x6 (toN x8) ((0 : Int), (0 : Int), (0 : Int), (0 : Int), (0 : Int))).2.1), ((List.getD x6 (toN x8) ((0 : Int), (0 : Int), (0 : Int), (0 : Int), (0 : Int))).2.2.1, (List.getD x6 (toN x8) ((0 : Int), (0 : Int), (0 : Int), (0 : Int), (0 : Int))).2.2.2.1), ((List.getD x6 (toN x8) ((0 : Int), (0 : Int), (0 : Int), (0 : Int), (0 : Int))).1, (List.getD x6 (toN x8) ((0 : Int), (0 : Int), (0 : Int), (0 : Int), (0 : Int))).2.2.2.1)] : List (Int × Int)))))]⟩ [] (by kernel_rfl) trivial ?_
    exact ⟨m, Nat.lt_succ_self m, _, _, rfl, h⟩
  · replace h := bif_f h hb
    refine Run.keep (s' := ⟨[(5, (.ptr 102 0)), (8, (.fn 37 .vnil (.vcons (.ptr 100 0) .vnil))), (9, (.vec 1301 t28))], [(100, (.box (.vcons (.d t22 x6) .vnil))), (102, (.box (.vcons (.d t28 x9) .vnil))), (1301, (.vec 38 t28 x10))]⟩) [5, 8, 9] [100, 102, 1301] (by kernel_rfl) ?_
    refine Run.exitN 0 (by kernel_rfl) ?_
    replace h := Option.some.inj h
    subst h
    exact ⟨rfl, by kernel_rfl⟩

def F14 (a0 : List (Int × Int × Int × Int × Int)) (a1 : Int × Int) (a2 : Int × Int) : Option ((List (Int × Int)) × Int) :=
  (F34s0 a0).bind fun y1 =>
  (bif y1 then
    some (([] : List (Int × Int)), (1 : Int))
  else
    (bif (decide ((8 : Int) < (ofN (List.length a0)))) then
      some (([] : List (Int × Int)), (3 : Int))
    else
      (F24 ([a1.1, a1.2, a2.1, a2.2] : List Int)).bind fun y2 =>
      (bif y2 then
        some (([] : List (Int × Int)), (11 : Int))
      else
        (F34s1 a0).bind fun y3 =>
        (bif y3 then
          some (([] : List (Int × Int)), (11 : Int))
        else
          (F37s0 a1 a1 a0).bind fun y4 =>
          (bif (!y4) then
            some (([] : List (Int × Int)), (15 : Int))
          else
            (F37s0 a2 a2 a0).bind fun y5 =>
            (bif (!y5) then
              some (([] : List (Int × Int)), (15 : Int))
            else
              (bif (eqD t28 a1 a2) then
                some (([a1] : List (Int × Int)), (0 : Int))
              else
                ((f14_l0 a0 (ofN (List.length a0)) (2 + List.length a0 + List.length ([a1] : List (Int × Int))) ((0 : Int), ([a1] : List (Int × Int)))).bind fun o11 =>
                  gd (List.length (o11 ++ ([a2] : List (Int × Int))) ≤ 1073741824) <|
                  (F39s0 (o11 ++ ([a2] : List (Int × Int))) a0).bind fun y12 =>
                  (bif (List.isEmpty y12.1) then
                    some (([] : List (Int × Int)), (16 : Int))
                  else
                    some (y12.1, (0 : Int)))))))))))

theorem c14 {a0 : List (Int × Int × Int × Int × Int)} {a1 : Int × Int} {a2 : Int × Int} {r : (List (Int × Int)) × Int} (h : F14 a0 a1 a2 = some r) : CallPure Pg 14 [(.d t22 a0), (.d t28 a1), (.d t28 a2)] (.tup (.vcons (.d t45 r.1) (.vcons (.d t2 r.2) .vnil))) := by
  refine callPureN hX c_14 92 [.tmp 6, .tmp 7] [45, 32] Go.Proofs.Try.func14 (by kernel_rfl) (by kernel_rfl) (by kernel_rfl) (Nat.le_of_ble_eq_true rfl) rfl rfl ?_
  show Run Pg 92 c_14 ⟨[(0, (.d t22 a0)), (1, (.d t28 a1)), (2, (.d t28 a2))], []⟩ (fin14 r)
  unfold F14 at h
  refine Run.regN hX [] 100 [3, 4, 5] [100, 101, 102] ⟨[(3, (.ptr 100 0)), (4, (.ptr 101 0)), (5, (.ptr 102 0))], [(100, (.box (.vcons (.d t22 a0) .vnil))), (101, (.box (.vcons (.d t28 a1) .vnil))), (102, (.box (.vcons (.d t28 a2) .vnil)))]⟩ [] (by kernel_rfl) (by kernel_rfl) trivial ?_
  refine Run.seqN (by kernel_rfl) ?_
  obtain ⟨y1, h_y1, h⟩ := bnd_elim h
  refine Run.regN hX [(1, .call (.d t4 y1))] 200 [3, 4, 5, 14] [100, 101, 102] ⟨[(3, (.ptr 100 0)), (4, (.ptr 101 0)), (5, (.ptr 102 0)), (14, (.d t4 y1))], [(100, (.box (.vcons (.d t22 a0) .vnil))), (101, (.box (.vcons (.d t28 a1) .vnil))), (102, (.box (.vcons (.d t28 a2) .vnil)))]⟩ [CallPure Pg 34 [(.d t22 a0), (.fn 35 .vnil .vnil)] (.d t4 y1)] (by kernel_rfl) (by kernel_rfl) ⟨(c34s0 h_y1), trivial⟩ ?_
  refine Run.condN y1 (by kernel_rfl) (fun hb => ?_) (fun hb => ?_)
  · replace h := bif_t h hb
    refine Run.regN hX [] 300 [6, 7] [] ⟨[(6, .nil), (7, (.d t2 (1 : Int)))], []⟩ [] (by kernel_rfl) (by kernel_rfl) trivial ?_
    refine Run.retN (by kernel_rfl) ?_
    replace h := Option.some.inj h
    subst h
    exact ⟨[(.d t45 ([] : List (Int × Int))), (.d t2 (1 : Int))], by kernel_rfl, by kernel_rfl⟩
  · replace h := bif_f h hb
    refine Run.skipN (by kernel_rfl) ?_
    show Run Pg 92 _ _ _
    refine Run.seqN (by kernel_rfl) ?_
    refine Run.regN hX [] 400 [3, 4, 5, 17] [100, 101, 102] ⟨[(3, (.ptr 100 0)), (4, (.ptr 101 0)), (5, (.ptr 102 0)), (17, (.d t4 (decide ((8 : Int) < (ofN (List.length a0))))))], [(100, (.box (.vcons (.d t22 a0) .vnil))), (101, (.box (.vcons (.d t28 a1) .vnil))), (102, (.box (.vcons (.d t28 a2) .vnil)))]⟩ [] (by kernel_rfl) (by kernel_rfl) trivial ?_
    refine Run.condN (decide ((8 : Int) < (ofN (List.length a0)))) (by kernel_rfl) (fun hb => ?_) (fun hb => ?_)
    · replace h := bif_t h hb
      refine Run.regN hX [] 500 [6, 7] [] ⟨[(6, .nil), (7, (.d t2 (3 : Int)))], []⟩ [] (by kernel_rfl) (by kernel_rfl) trivial ?_
      refine Run.retN (by kernel_rfl) ?_
      replace h := Option.some.inj h
      subst h
      exact ⟨[(.d t45 ([] : List (Int × Int))), (.d t2 (3 : Int))], by kernel_rfl, by kernel_rfl⟩
    · replace h := bif_f h hb
      refine Run.skipN (by kernel_rfl) ?_
      show Run Pg 92 _ _ _
      refine Run.seqN (by kernel_rfl) ?_
      obtain ⟨y2, h_y2, h⟩ := bnd_elim h
      rcases bif_elim h with ⟨hb1, h⟩ | ⟨hb1, h⟩
      · refine Run.regN hX [(9, .call (.d t4 y2)), (10, .b true)] 600 [3, 4, 5, 31] [100, 101, 102] ⟨[(3, (.ptr 100 0)), (4, (.ptr 101 0)), (5, (.ptr 102 0)), (31, (.d t4 true))], [(100, (.box (.vcons (.d t22 a0) .vnil))), (101, (.box (.vcons (.d t28 a1) .vnil))), (102, (.box (.vcons (.d t28 a2) .vnil)))]⟩ [CallPure Pg 24 [(.d t57 ([a1.1, a1.2, a2.1, a2.2] : List Int))] (.d t4 y2), y2 = true] (by kernel_rfl) (by kernel_rfl) ⟨(c24 h_y2), hb1, trivial⟩ ?_
        refine Run.condN true (by kernel_rfl) (fun hb => ?_) (fun hb => (by cases hb))
        refine Run.regN hX [] 700 [6, 7] [] ⟨[(6, .nil), (7, (.d t2 (11 : Int)))], []⟩ [] (by kernel_rfl) (by kernel_rfl) trivial ?_
        refine Run.retN (by kernel_rfl) ?_
        replace h := Option.some.inj h
        subst h
        exact ⟨[(.d t45 ([] : List (Int × Int))), (.d t2 (11 : Int))], by kernel_rfl, by kernel_rfl⟩
      · obtain ⟨y3, h_y3, h⟩ := bnd_elim h
        refine Run.regN hX [(9, .call (.d t4 y2)), (10, .b false), (12, .call (.d t4 y3))] 600 [3, 4, 5, 31] [100, 101, 102] ⟨[(3, (.ptr 100 0)), (4, (.ptr 101 0)), (5, (.ptr 102 0)), (31, (.d t4 y3))], [(100, (.box (.vcons (.d t22 a0) .vnil))), (101, (.box (.vcons (.d t28 a1) .vnil))), (102, (.box (.vcons (.d t28 a2) .vnil)))]⟩ [CallPure Pg 24 [(.d t57 ([a1.1, a1.2, a2.1, a2.2] : List Int))] (.d t4 y2), y2 = false, CallPure Pg 34 [(.d t22 a0), (.fn 36 .vnil .vnil)] (.d t4 y3)] (by kernel_rfl) (by kernel_rfl) ⟨(c24 h_y2), hb1, (c34s1 h_y3), trivial⟩ ?_
        refine Run.condN y3 (by kernel_rfl) (fun hb => ?_) (fun hb => ?_)
        · replace h := bif_t h hb
          refine Run.regN hX [] 700 [6, 7] [] ⟨[(6, .nil), (7, (.d t2 (11 : Int)))], []⟩ [] (by kernel_rfl) (by kernel_rfl) trivial ?_
          refine Run.retN (by kernel_rfl) ?_
          replace h := Option.some.inj h
          subst h
          exact ⟨[(.d t45 ([] : List (Int × Int))), (.d t2 (11 : Int))], by kernel_rfl, by kernel_rfl⟩
        · replace h := bif_f h hb
          refine Run.skipN (by kernel_rfl) ?_
          show Run Pg 92 _ _ _
          refine Run.regN hX [] 800 [3, 4, 5, 8] [100, 101, 102] ⟨[(3, (.ptr 100 0)), (4, (.ptr 101 0)), (5, (.ptr 102 0)), (8, (.fn 37 .vnil (.vcons (.ptr 100 0) .vnil)))], [(100, (.box (.vcons (.d t22 a0) .vnil))), (101, (.box (.vcons (.d t28 a1) .vnil))), (102, (.box (.vcons (.d t28 a2) .vnil)))]⟩ [] (by kernel_rfl) (by kernel_rfl) trivial ?_
          refine Run.seqN (by kernel_rfl) ?_
          obtain ⟨y4, h_y4, h⟩ := bnd_elim h
          rcases bif_elim h with ⟨hb3, h⟩ | ⟨hb3, h⟩
          · refine Run.regN hX [(3, .callS [(1000000, (.box (.vcons (.d t22 a0) .vnil)))] [(.d t28 a1), (.d t28 a1), (.ptr 1000000 0)] [(1000000, 100)] (.d t4 y4) [(1000000, (.box (.vcons (.d t22 a0) .vnil)))]), (5, .b true)] 900 [3, 4, 5, 8, 44] [100, 101, 102] ⟨[(3, (.ptr 100 0)), (4, (.ptr 101 0)), (5, (.ptr 102 0)), (8, (.fn 37 .vnil (.vcons (.ptr 100 0) .vnil))), (44, (.d t4 true))], [(100, (.box (.vcons (.d t22 a0) .vnil))), (101, (.box (.vcons (.d t28 a1) .vnil))), (102, (.box (.vcons (.d t28 a2) .vnil)))]⟩ [(([(.d t28 a1), (.d t28 a1), (.ptr 100 0)] : List V) = List.map (V.ren (renL [(1000000, 100)] 903)) [(.d t28 a1), (.d t28 a1), (.ptr 1000000 0)]), CallSt Pg 37 [(.d t28 a1), (.d t28 a1), (.ptr 1000000 0)] [(1000000, (.box (.vcons (.d t22 a0) .vnil)))] (.d t4 y4) [(1000000, (.box (.vcons (.d t22 a0) .vnil)))], ((some (.box (.vcons (.d t22 a0) .vnil)) : Option E) = some (E.ren (renL [(1000000, 100)] 903) (.box (.vcons (.d t22 a0) .vnil)))), (!y4) = true] (by kernel_rfl) (by kernel_rfl) ⟨(by kernel_rfl), (c37s0 h_y4), (by kernel_rfl), hb3, trivial⟩ ?_
            refine Run.condN true (by kernel_rfl) (fun hb => ?_) (fun hb => (by cases hb))
            refine Run.regN hX [] 1000 [6, 7] [] ⟨[(6, .nil), (7, (.d t2 (15 : Int)))], []⟩ [] (by kernel_rfl) (by kernel_rfl) trivial ?_
            refine Run.retN (by kernel_rfl) ?_
            replace h := Option.some.inj h
            subst h
            exact ⟨[(.d t45 ([] : List (Int × Int))), (.d t2 (15 : Int))], by kernel_rfl, by kernel_rfl⟩
          · obtain ⟨y5, h_y5, h⟩ := bnd_elim h
            refine Run.regN hX [(3, .callS [(1000000, (.box (.vcons (.d t22 a0) .vnil)))] [(.d t28 a1), (.d t28 a1), (.ptr 1000000 0)] [(1000000, 100)] (.d t4 y4) [(1000000, (.box (.vcons (.d t22 a0) .vnil)))]), (5, .b false), (9, .callS [(1000000, (.box (.vcons (.d t22 a0) .vnil)))] [(.d t28 a2), (.d t28 a2), (.ptr 1000000 0)] [(1000000, 100)] (.d t4 y5) [(1000000, (.box (.vcons (.d t22 a0) .vnil)))])] 900 [3, 4, 5, 8, 44] [100, 101, 102] ⟨[(3, (.ptr 100 0)), (4, (.ptr 101 0)), (5, (.ptr 102 0)), (8, (.fn 37 .vnil (.vcons (.ptr 100 0) .vnil))), (44, (.d t4 (!y5)))], [(100, (.box (.vcons (.d t22 a0) .vnil))), (101, (.box (.vcons (.d t28 a1) .vnil))), (102, (.box (.vcons (.d t28 a2) .vnil)))]⟩ [(([(.d t28 a1), (.d t28 a1), (.ptr 100 0)] : List V) = List.map (V.ren (renL [(1000000, 100)] 903)) [(.d t28 a1), (.d t28 a1), (.ptr 1000000 0)]), CallSt Pg 37 [(.d t28 a1), (.d t28 a1), (.ptr 1000000 0)] [(1000000, (.box (.vcons (.d t22 a0) .vnil)))] (.d t4 y4) [(1000000, (.box (.vcons (.d t22 a0) .vnil)))], ((some (.box (.vcons (.d t22 a0) .vnil)) : Option E) = some (E.ren (renL [(1000000, 100)] 903) (.box (.vcons (.d t22 a0) .vnil)))), (!y4) = false, (([(.d t28 a2), (.d t28 a2), (.ptr 100 0)] : List V) = List.map (V.ren (renL [(1000000, 100)] 909)) [(.d t28 a2), (.d t28 a2), (.ptr 1000000 0)]), CallSt Pg 37 [(.d t28 a2), (.d t28 a2), (.ptr 1000000 0)] [(1000000, (.box (.vcons (.d t22 a0) .vnil)))] (.d t4 y5) [(1000000, (.box (.vcons (.d t22 a0) .vnil)))], ((some (.box (.vcons (.d t22 a0) .vnil)) : Option E) = some (E.ren (renL [(1000000, 100)] 909) (.box (.vcons (.d t22 a0) .vnil))))] (by kernel_rfl) (by kernel_rfl) ⟨(by kernel_rfl), (c37s0 h_y4), (by kernel_rfl), hb3, (by kernel_rfl), (c37s0 h_y5), (by kernel_rfl), trivial⟩ ?_
            refine Run.condN (!y5) (by kernel_rfl) (fun hb => ?_) (fun hb => ?_)
            · replace h := bif_t h hb
              refine Run.regN hX [] 1000 [6, 7] [] ⟨[(6, .nil), (7, (.d t2 (15 : Int)))], []⟩ [] (by kernel_rfl) (by kernel_rfl) trivial ?_
              refine Run.retN (by kernel_rfl) ?_
              replace h := Option.some.inj h
              subst h
              exact ⟨[(.d t45 ([] : List (Int × Int))), (.d t2 (15 : Int))], by kernel_rfl, by kernel_rfl⟩
            · replace h := bif_f h hb
              refine Run.skipN (by kernel_rfl) ?_
              show Run Pg 92 _ _ _
              refine Run.seqN (by kernel_rfl) ?_
              refine Run.regN hX [] 1100 [3, 4, 5, 8, 47] [100, 101, 102] ⟨[(3, (.ptr 100 0)), (4, (.ptr 101 0)), (5, (.ptr 102 0)), (8, (.fn 37 .vnil (.vcons (.ptr 100 0) .vnil))), (47, (.d t4 (eqD t28 a1 a2)))], [(100, (.box (.vcons (.d t22 a0) .vnil))), (101, (.box (.vcons (.d t28 a1) .vnil))), (102, (.box (.vcons (.d t28 a2) .vnil)))]⟩ [] (by kernel_rfl) (by kernel_rfl) trivial ?_
              refine Run.condN (eqD t28 a1 a2) (by kernel_rfl) (fun hb => ?_) (fun hb => ?_)
              · replace h := bif_t h hb
                refine Run.regN hX [] 1200 [6, 7] [] ⟨[(6, (.d t45 ([a1] : List (Int × Int)))), (7, (.d t2 (0 : Int)))], []⟩ [] (by kernel_rfl) (by kernel_rfl) trivial ?_
                refine Run.retN (by kernel_rfl) ?_
                replace h := Option.some.inj h
                subst h
                exact ⟨[(.d t45 ([a1] : List (Int × Int))), (.d t2 (0 : Int))], by kernel_rfl, by kernel_rfl⟩
              · replace h := bif_f h hb
                refine Run.skipN (by kernel_rfl) ?_
                show Run Pg 92 _ _ _
                refine Run.regN hX [(1, .own)] 1300 [3, 5, 8, 9] [100, 102, 1301] ⟨[(3, (.ptr 100 0)), (5, (.ptr 102 0)), (8, (.fn 37 .vnil (.vcons (.ptr 100 0) .vnil))), (9, (.vec 1301 t28))], [(100, (.box (.vcons (.d t22 a0) .vnil))), (102, (.box (.vcons (.d t28 a2) .vnil))), (1301, (.vec 38 t28 ([a1] : List (Int × Int))))]⟩ [] (by kernel_rfl) (by kernel_rfl) trivial ?_
                refine Run.seqN (by kernel_rfl) ?_
                refine Run.regN hX [] 1400 [5, 8, 9, 52, 53, 54] [100, 102, 1301] ⟨[(5, (.ptr 102 0)), (8, (.fn 37 .vnil (.vcons (.ptr 100 0) .vnil))), (9, (.vec 1301 t28)), (52, (.d t22 a0)), (53, (.d t2 (ofN (List.length a0)))), (54, (.d t2 (0 : Int)))], [(100, (.box (.vcons (.d t22 a0) .vnil))), (102, (.box (.vcons (.d t28 a2) .vnil))), (1301, (.vec 38 t28 ([a1] : List (Int × Int))))]⟩ [] (by kernel_rfl) (by kernel_rfl) trivial ?_
                refine Run.blockN 0 (by kernel_rfl) ?_
                obtain ⟨o11, h_o11, h⟩ := bnd_elim h
                refine Run.mono (f14_l0_ok a0 (ofN (List.length a0)) a2 _ (0 : Int) ([a1] : List (Int × Int)) h_o11) ?_
                rintro x s ⟨hx, hs⟩
                subst hx
                subst hs
                show Run Pg 92 _ _ _
                obtain ⟨g_0, h⟩ := gd_elim h
                refine Run.regN hX [] 1900 [8, 9] [100, 1301] ⟨[(8, (.fn 37 .vnil (.vcons (.ptr 100 0) .vnil))), (9, (.vec 1301 t28))], [(100, (.box (.vcons (.d t22 a0) .vnil))), (1301, (.vec 38 t28 (o11 ++ ([a2] : List (Int × Int)))))]⟩ [(List.length (o11 ++ ([a2] : List (Int × Int))) ≤ 1073741824)] (by kernel_rfl) (by kernel_rfl) ⟨g_0, trivial⟩ ?_
                refine Run.freeze (s' := ⟨[(8, (.fn 37 .vnil (.vcons (.ptr 100 0) .vnil))), (9, (.d t45 (o11 ++ ([a2] : List (Int × Int)))))], [(100, (.box (.vcons (.d t22 a0) .vnil)))]⟩) 1301 (by kernel_rfl) ?_
                obtain ⟨y12, h_y12, h⟩ := bnd_elim h
                rcases bif_elim h with ⟨hn_y12, h⟩ | ⟨hn_y12, h⟩
                · refine Run.regN hX [(2, .callS [(1000000, (.box (.vcons (.d t22 a0) .vnil)))] [(.d t45 (o11 ++ ([a2] : List (Int × Int)))), (.fn 37 .vnil (.vcons (.ptr 1000000 0) .vnil))] [(1000000, 100)] .nil [(1000000, (.box (.vcons (.d t22 y12.2) .vnil)))])] 2000 [12] [] ⟨[(12, .nil)], []⟩ [(([(.d t45 (o11 ++ ([a2] : List (Int × Int)))), (.fn 37 .vnil (.vcons (.ptr 100 0) .vnil))] : List V) = List.map (V.ren (renL [(1000000, 100)] 2002)) [(.d t45 (o11 ++ ([a2] : List (Int × Int)))), (.fn 37 .vnil (.vcons (.ptr 1000000 0) .vnil))]), CallSt Pg 39 [(.d t45 (o11 ++ ([a2] : List (Int × Int)))), (.fn 37 .vnil (.vcons (.ptr 1000000 0) .vnil))] [(1000000, (.box (.vcons (.d t22 a0) .vnil)))] .nil [(1000000, (.box (.vcons (.d t22 y12.2) .vnil)))], ((some (.box (.vcons (.d t22 a0) .vnil)) : Option E) = some (E.ren (renL [(1000000, 100)] 2002) (.box (.vcons (.d t22 a0) .vnil))))] (by kernel_rfl) (by kernel_rfl) ⟨(by kernel_rfl), (by have q := c39s0 h_y12; rw [nilOr_t hn_y12] at q; exact q), (by kernel_rfl), trivial⟩ ?_
                  refine Run.seqN (by kernel_rfl) ?_
                  refine Run.regN hX [] 2100 [12, 90] [] ⟨[(12, .nil), (90, (.d t4 true))], []⟩ [] (by kernel_rfl) (by kernel_rfl) trivial ?_
                  refine Run.condN true (by kernel_rfl) (fun hb => ?_) (fun hb => (by cases hb))
                  refine Run.regN hX [] 2200 [6, 7] [] ⟨[(6, .nil), (7, (.d t2 (16 : Int)))], []⟩ [] (by kernel_rfl) (by kernel_rfl) trivial ?_
                  refine Run.retN (by kernel_rfl) ?_
                  replace h := Option.some.inj h
                  subst h
                  exact ⟨[(.d t45 ([] : List (Int × Int))), (.d t2 (16 : Int))], by kernel_rfl, by kernel_rfl⟩
                · refine Run.regN hX [(2, .callS [(1000000, (.box (.vcons (.d t22 a0) .vnil)))] [(.d t45 (o11 ++ ([a2] : List (Int × Int)))), (.fn 37 .vnil (.vcons (.ptr 1000000 0) .vnil))] [(1000000, 100)] (.d t45 y12.1) [(1000000, (.box (.vcons (.d t22 y12.2) .vnil)))])] 2000 [12] [] ⟨[(12, (.d t45 y12.1))], []⟩ [(([(.d t45 (o11 ++ ([a2] : List (Int × Int)))), (.fn 37 .vnil (.vcons (.ptr 100 0) .vnil))] : List V) = List.map (V.ren (renL [(1000000, 100)] 2002)) [(.d t45 (o11 ++ ([a2] : List (Int × Int)))), (.fn 37 .vnil (.vcons (.ptr 1000000 0) .vnil))]), CallSt Pg 39 [(.d t45 (o11 ++ ([a2] : List (Int × Int)))), (.fn 37 .vnil (.vcons (.ptr 1000000 0) .vnil))] [(1000000, (.box (.vcons (.d t22 a0) .vnil)))] (.d t45 y12.1) [(1000000, (.box (.vcons (.d t22 y12.2) .vnil)))], ((some (.box (.vcons (.d t22 a0) .vnil)) : Option E) = some (E.ren (renL [(1000000, 100)] 2002) (.box (.vcons (.d t22 a0) .vnil))))] (by kernel_rfl) (by kernel_rfl) ⟨(by kernel_rfl), (by have q := c39s0 h_y12; rw [nilOr_f hn_y12] at q; exact q), (by kernel_rfl), trivial⟩ ?_
                  refine Run.seqN (by kernel_rfl) ?_
                  refine Run.regN hX [] 2100 [12, 90] [] ⟨[(12, (.d t45 y12.1)), (90, (.d t4 false))], []⟩ [(y12.1 ≠ [])] (by kernel_rfl) (by kernel_rfl) ⟨(ne_of_isEmpty hn_y12), trivial⟩ ?_
                  refine Run.condN false (by kernel_rfl) (fun hb => (by cases hb)) (fun hb => ?_)
                  refine Run.skipN (by kernel_rfl) ?_
                  show Run Pg 92 _ _ _
                  refine Run.regN hX [] 2300 [6, 7] [] ⟨[(6, (.d t45 y12.1)), (7, (.d t2 (0 : Int)))], []⟩ [] (by kernel_rfl) (by kernel_rfl) trivial ?_
                  refine Run.retN (by kernel_rfl) ?_
                  replace h := Option.some.inj h
                  subst h
                  exact ⟨[(.d t45 y12.1), (.d t2 (0 : Int))], by kernel_rfl, by kernel_rfl⟩

/-! ## f57 -/

noncomputable def c_57 : Code := body0 Go.Proofs.Try.f57

def fin57 (r : Bool) : Ex → St → Prop := endK X0 [.tmp 4] [4] (.d t4 r)

def F57 (a0 : Int × Int × Int × Int × Int) (a1 : Int × Int) : Option (Bool) :=
  (bif (decide (a0.1 ≤ a1.1)) then
    (bif (decide (a1.1 ≤ a0.2.2.1)) then
      (bif (decide (a0.2.1 ≤ a1.2)) then
        some (decide (a1.2 ≤ a0.2.2.2.1))
      else
        some false)
    else
      some false)
  else
    some false)

theorem c57 {a0 : Int × Int × Int × Int × Int} {a1 : Int × Int} {r : Bool} (h : F57 a0 a1 = some r) : CallPure Pg 57 [(.d t55 a0), (.d t28 a1)] (.d t4 r) := by
  refine callPureN hX c_57 31 [.tmp 4] [4] Go.Proofs.Try.func57 (by kernel_rfl) (by kernel_rfl) (by kernel_rfl) (Nat.le_of_ble_eq_true rfl) rfl rfl ?_
  show Run Pg 31 c_57 ⟨[(0, (.d t55 a0)), (1, (.d t28 a1))], []⟩ (fin57 r)
  unfold F57 at h
  refine Run.regN hX [] 100 [2, 3] [100, 101] ⟨[(2, (.ptr 100 0)), (3, (.ptr 101 0))], [(100, (.box (.vcons (.d t55 a0) .vnil))), (101, (.box (.vcons (.d t28 a1) .vnil)))]⟩ [] (by kernel_rfl) (by kernel_rfl) trivial ?_
  rcases bif_elim h with ⟨hb0, h⟩ | ⟨hb0, h⟩
  · rcases bif_elim h with ⟨hb1, h⟩ | ⟨hb1, h⟩
    · rcases bif_elim h with ⟨hb2, h⟩ | ⟨hb2, h⟩
      · refine Run.regN hX [(5, .b true), (12, .b true), (19, .b true)] 200 [4] [] ⟨[(4, (.d t4 (decide (a1.2 ≤ a0.2.2.2.1))))], []⟩ [(decide (a0.1 ≤ a1.1)) = true, (decide (a1.1 ≤ a0.2.2.1)) = true, (decide (a0.2.1 ≤ a1.2)) = true] (by kernel_rfl) (by kernel_rfl) ⟨hb0, hb1, hb2, trivial⟩ ?_
        refine Run.retN (by kernel_rfl) ?_
        replace h := Option.some.inj h
        subst h
        exact ⟨[(.d t4 (decide (a1.2 ≤ a0.2.2.2.1)))], by kernel_rfl, by kernel_rfl⟩
      · refine Run.regN hX [(5, .b true), (12, .b true), (19, .b false)] 200 [4] [] ⟨[(4, (.d t4 false))], []⟩ [(decide (a0.1 ≤ a1.1)) = true, (decide (a1.1 ≤ a0.2.2.1)) = true, (decide (a0.2.1 ≤ a1.2)) = false] (by kernel_rfl) (by kernel_rfl) ⟨hb0, hb1, hb2, trivial⟩ ?_
        refine Run.retN (by kernel_rfl) ?_
        replace h := Option.some.inj h
        subst h
        exact ⟨[(.d t4 false)], by kernel_rfl, by kernel_rfl⟩
    · refine Run.regN hX [(5, .b true), (12, .b false)] 200 [4] [] ⟨[(4, (.d t4 false))], []⟩ [(decide (a0.1 ≤ a1.1)) = true, (decide (a1.1 ≤ a0.2.2.1)) = false] (by kernel_rfl) (by kernel_rfl) ⟨hb0, hb1, trivial⟩ ?_
      refine Run.retN (by kernel_rfl) ?_
      replace h := Option.some.inj h
      subst h
      exact ⟨[(.d t4 false)], by kernel_rfl, by kernel_rfl⟩
  · refine Run.regN hX [(5, .b false)] 200 [4] [] ⟨[(4, (.d t4 false))], []⟩ [(decide (a0.1 ≤ a1.1)) = false] (by kernel_rfl) (by kernel_rfl) ⟨hb0, trivial⟩ ?_
    refine Run.retN (by kernel_rfl) ?_
    replace h := Option.some.inj h
    subst h
    exact ⟨[(.d t4 false)], by kernel_rfl, by kernel_rfl⟩

/-! ## f74 -/

noncomputable def c_74 : Code := body0 Go.Proofs.Try.f74

def fin74 (r : (List Int)) : Ex → St → Prop := endK X0 [.tmp 2] [96] (.d t96 r)

def F74 (a0 : Int) : Option ((List Int)) :=
  some ([(wrapI .u32 (Int.tmod a0 (1000000000 : Int))), (wrapI .u32 (Int.tmod (wrapI .u64 (Int.tdiv a0 (1000000000 : Int))) (1000000000 : Int))), (wrapI .u32 (wrapI .u64 (Int.tdiv (wrapI .u64 (Int.tdiv a0 (1000000000 : Int))) (1000000000 : Int))))] : List Int)

theorem c74 {a0 : Int} {r : (List Int)} (h : F74 a0 = some r) : CallPure Pg 74 [(.d t12 a0)] (.d t96 r) := by
  refine callPureN hX c_74 15 [.tmp 2] [96] Go.Proofs.Try.func74 (by kernel_rfl) (by kernel_rfl) (by kernel_rfl) (Nat.le_of_ble_eq_true rfl) rfl rfl ?_
  show Run Pg 15 c_74 ⟨[(0, (.d t12 a0))], []⟩ (fin74 r)
  unfold F74 at h
  refine Run.regN hX [] 100 [0] [] ⟨[(0, (.d t12 a0))], []⟩ [] (by kernel_rfl) (by kernel_rfl) trivial ?_
  refine Run.regN hX [] 200 [2] [] ⟨[(2, (.d t96 ([(wrapI .u32 (Int.tmod a0 (1000000000 : Int))), (wrapI .u32 (Int.tmod (wrapI .u64 (Int.tdiv a0 (1000000000 : Int))) (1000000000 : Int))), (wrapI .u32 (wrapI .u64 (Int.tdiv (wrapI .u64 (Int.tdiv a0 (1000000000 : Int))) (1000000000 : Int))))] : List Int)))], []⟩ [((1000000000 : Int) ≠ 0), ((1000000000 : Int) ≠ 0), ((1000000000 : Int) ≠ 0), ((1000000000 : Int) ≠ 0), ((1000000000 : Int) ≠ 0)] (by kernel_rfl) (by kernel_rfl) ⟨(by decide), (by decide), (by decide), (by decide), (by decide), trivial⟩ ?_
  refine Run.retN (by kernel_rfl) ?_
  replace h := Option.some.inj h
  subst h
  exact ⟨[(.d t96 ([(wrapI .u32 (Int.tmod a0 (1000000000 : Int))), (wrapI .u32 (Int.tmod (wrapI .u64 (Int.tdiv a0 (1000000000 : Int))) (1000000000 : Int))), (wrapI .u32 (wrapI .u64 (Int.tdiv (wrapI .u64 (Int.tdiv a0 (1000000000 : Int))) (1000000000 : Int))))] : List Int))], by kernel_rfl, by kernel_rfl⟩

/-! ## f73 -/

noncomputable def c_73 : Code := body0 Go.Proofs.Try.f73

def fin73 (r : (Bool × (List Int))) : Ex → St → Prop := endK X0 [.cell 4 98] [98] (.d t97 r)

def f73_l0_post (x1 : Bool) (x2 : List Int) (x4 : Bool × (List Int)) : (Int) → Ex → St → Prop
  | o, x, s => x = .out 0 ∧ s = ⟨[(0, (.d t4 x1)), (1, (.d t96 x2)), (4, (.ptr 100 0)), (5, (.d t2 o))], [(100, (.box (.vcons (.d t97 x4) .vnil)))]⟩

def f73_l0_b (x2 : List Int) (again : Int → Option (Int)) : Int → Option (Int)
  | x3 =>
    (bif (decide ((0 : Int) < x3)) then
      gd (0 ≤ (wrapI .i64 (x3 - (1 : Int)))) <|
      gd ((wrapI .i64 (x3 - (1 : Int))) < ((List.length x2 : Nat) : Int)) <|
      (bif ((List.getD x2 (toN (wrapI .i64 (x3 - (1 : Int)))) (0 : Int)) == (0 : Int)) then
        again (wrapI .i64 (x3 - (1 : Int)))
      else
        some x3)
    else
      some x3)

def f73_l0 (x2 : List Int) : Nat → Int → Option (Int) := loopF (f73_l0_b x2)

theorem f73_l0_ok (x1 : Bool) (x2 : List Int) (x4 : Bool × (List Int)) (k : Nat) (x3 : Int) {out : (Int)} (h : f73_l0 x2 k x3 = some out) : Run Pg 30 (bk1 (sq1 (sq2 (sq2 c_73)))) ⟨[(0, (.d t4 x1)), (1, (.d t96 x2)), (4, (.ptr 100 0)), (5, (.d t2 x3))], [(100, (.box (.vcons (.d t97 x4) .vnil)))]⟩ (f73_l0_post x1 x2 x4 out) := by
  refine Run.loopN (by kernel_rfl) (fun m s => ∃ x3, s = ⟨[(0, (.d t4 x1)), (1, (.d t96 x2)), (4, (.ptr 100 0)), (5, (.d t2 x3))], [(100, (.box (.vcons (.d t97 x4) .vnil)))]⟩ ∧ f73_l0 x2 m x3 = some out) ?_ k ⟨x3,  rfl, h⟩
  rintro m s ⟨x3,  rfl, h⟩
  cases m with
  | zero => cases h
  | succ m =>
  replace h : f73_l0_b x2 (f73_l0 x2 m) x3 = some out := h
  unfold f73_l0_b at h
  refine Run.seqN (by kernel_rfl) ?_
  rcases bif_elim h with ⟨hb0, h⟩ | ⟨hb0, h⟩
  · obtain ⟨g_1, h⟩ := gd_elim h
    obtain ⟨g_2, h⟩ := gd_elim h
    refine Run.regN hX [(2, .b true)] 300 [0, 1, 4, 5, 17] [100] ⟨[(0, (.d t4 x1)), (1, (.d t96 x2)), (4, (.ptr 100 0)), (5, (.d t2 x3)), (17, (.d t4 ((List.getD x2 (toN (wrapI .i64 (x3 - (1 : Int)))) (0 : Int)) == (0 : Int))))], [(100, (.box (.vcons (.d t97 x4) .vnil)))]⟩ [(decide ((0 : Int) < x3)) = true, (0 ≤ (wrapI .i64 (x3 - (1 : Int)))), ((wrapI .i64 (x3 - (1 : Int))) < ((List.length x2 : Nat) : Int))] (by kernel_rfl) (by kernel_rfl) ⟨hb0, g_1, g_2, trivial⟩ ?_
    refine Run.condN ((List.getD x2 (toN (wrapI .i64 (x3 - (1 : Int)))) (0 : Int)) == (0 : Int)) (by kernel_rfl) (fun hb => ?_) (fun hb => ?_)
    · replace h := bif_t h hb
      refine Run.skipN (by kernel_rfl) ?_
      show Run Pg 30 _ _ _
      refine Run.blockN 1 (by kernel_rfl) ?_
      refine Run.regE hX [] 400 [0, 1, 4, 5] [100] ⟨[(0, (.d t4 x1)), (1, (.d t96 x2)), (4, (.ptr 100 0)), (5, (.d t2 (wrapI .i64 (x3 - (1 : Int)))))], [(100, (.box (.vcons (.d t97 x4) .vnil)))]⟩ [] (by kernel_rfl) trivial ?_
      exact ⟨m, Nat.lt_succ_self m, _, rfl, h⟩
    · replace h := bif_f h hb
      refine Run.keep (s' := ⟨[(0, (.d t4 x1)), (1, (.d t96 x2)), (4, (.ptr 100 0)), (5, (.d t2 x3))], [(100, (.box (.vcons (.d t97 x4) .vnil)))]⟩) [0, 1, 4, 5] [100] (by kernel_rfl) ?_
      refine Run.exitN 0 (by kernel_rfl) ?_
      replace h := Option.some.inj h
      subst h
      exact ⟨rfl, by kernel_rfl⟩
  · refine Run.regN hX [(2, .b false)] 300 [0, 1, 4, 5, 17] [100] ⟨[(0, (.d t4 x1)), (1, (.d t96 x2)), (4, (.ptr 100 0)), (5, (.d t2 x3)), (17, (.d t4 false))], [(100, (.box (.vcons (.d t97 x4) .vnil)))]⟩ [(decide ((0 : Int) < x3)) = false] (by kernel_rfl) (by kernel_rfl) ⟨hb0, trivial⟩ ?_
    refine Run.condN false (by kernel_rfl) (fun hb => (by cases hb)) (fun hb => ?_)
    refine Run.keep (s' := ⟨[(0, (.d t4 x1)), (1, (.d t96 x2)), (4, (.ptr 100 0)), (5, (.d t2 x3))], [(100, (.box (.vcons (.d t97 x4) .vnil)))]⟩) [0, 1, 4, 5] [100] (by kernel_rfl) ?_
    refine Run.exitN 0 (by kernel_rfl) ?_
    replace h := Option.some.inj h
    subst h
    exact ⟨rfl, by kernel_rfl⟩

def F73 (a0 : Bool) (a1 : List Int) : Option ((Bool × (List Int))) :=
  ((f73_l0 a1 (2 + List.length a1) (ofN (List.length a1))).bind fun o5 =>
    (bif a0 then
      gd (0 ≤ o5) <|
      gd (o5 ≤ o5) <|
      gd (o5 ≤ ((List.length a1 : Nat) : Int)) <|
      some ((decide ((0 : Int) < o5)), (List.take (Int.toNat o5) a1))
    else
      gd (0 ≤ o5) <|
      gd (o5 ≤ o5) <|
      gd (o5 ≤ ((List.length a1 : Nat) : Int)) <|
      some (false, (List.take (Int.toNat o5) a1))))

theorem c73 {a0 : Bool} {a1 : List Int} {r : (Bool × (List Int))} (h : F73 a0 a1 = some r) : CallPure Pg 73 [(.d t4 a0), (.d t96 a1)] (.d t97 r) := by
  refine callPureN hX c_73 30 [.cell 4 98] [98] Go.Proofs.Try.func73 (by kernel_rfl) (by kernel_rfl) (by kernel_rfl) (Nat.le_of_ble_eq_true rfl) rfl rfl ?_
  show Run Pg 30 c_73 ⟨[(0, (.d t4 a0)), (1, (.d t96 a1))], []⟩ (fin73 r)
  unfold F73 at h
  refine Run.regN hX [] 100 [0, 1, 4] [100] ⟨[(0, (.d t4 a0)), (1, (.d t96 a1)), (4, (.ptr 100 0))], [(100, (.box (.vcons (.d t97 (false, ([] : List Int))) .vnil)))]⟩ [] (by kernel_rfl) (by kernel_rfl) trivial ?_
  refine Run.regN hX [] 200 [0, 1, 4, 5] [100] ⟨[(0, (.d t4 a0)), (1, (.d t96 a1)), (4, (.ptr 100 0)), (5, (.d t2 (ofN (List.length a1))))], [(100, (.box (.vcons (.d t97 (false, ([] : List Int))) .vnil)))]⟩ [] (by kernel_rfl) (by kernel_rfl) trivial ?_
  refine Run.seqN (by kernel_rfl) ?_
  refine Run.blockN 0 (by kernel_rfl) ?_
  obtain ⟨o5, h_o5, h⟩ := bnd_elim h
  refine Run.mono (f73_l0_ok a0 a1 (false, ([] : List Int)) _ (ofN (List.length a1)) h_o5) ?_
  rintro x s ⟨hx, hs⟩
  subst hx
  subst hs
  show Run Pg 30 _ _ _
  rcases bif_elim h with ⟨hb0, h⟩ | ⟨hb0, h⟩
  · obtain ⟨g_1, h⟩ := gd_elim h
    obtain ⟨g_2, h⟩ := gd_elim h
    obtain ⟨g_3, h⟩ := gd_elim h
    refine Run.regN hX [(1, .b true)] 500 [4] [100] ⟨[(4, (.ptr 100 0))], [(100, (.box (.vcons (.d t97 ((decide ((0 : Int) < o5)), (List.take (Int.toNat o5) a1))) .vnil)))]⟩ [a0 = true, (0 ≤ o5), (o5 ≤ o5), (o5 ≤ ((List.length a1 : Nat) : Int))] (by kernel_rfl) (by kernel_rfl) ⟨hb0, g_1, g_2, g_3, trivial⟩ ?_
    refine Run.retN (by kernel_rfl) ?_
    replace h := Option.some.inj h
    subst h
    exact ⟨[(.d t97 ((decide ((0 : Int) < o5)), (List.take (Int.toNat o5) a1)))], by kernel_rfl, by kernel_rfl⟩
  · obtain ⟨g_1, h⟩ := gd_elim h
    obtain ⟨g_2, h⟩ := gd_elim h
    obtain ⟨g_3, h⟩ := gd_elim h
    refine Run.regN hX [(1, .b false)] 500 [4] [100] ⟨[(4, (.ptr 100 0))], [(100, (.box (.vcons (.d t97 (false, (List.take (Int.toNat o5) a1))) .vnil)))]⟩ [a0 = false, (0 ≤ o5), (o5 ≤ o5), (o5 ≤ ((List.length a1 : Nat) : Int))] (by kernel_rfl) (by kernel_rfl) ⟨hb0, g_1, g_2, g_3, trivial⟩ ?_
    refine Run.retN (by kernel_rfl) ?_
    replace h := Option.some.inj h
    subst h
    exact ⟨[(.d t97 (false, (List.take (Int.toNat o5) a1)))], by kernel_rfl, by kernel_rfl⟩

/-! ## f64 -/

noncomputable def c_64 : Code := body0 Go.Proofs.Try.f64

def fin64 (r : (Bool × (List Int))) : Ex → St → Prop := endK X0 [.cell 2 98] [98] (.d t97 r)

def f64_c0_post (x1 : Int) (x2 : Int) (x3 : Bool) (x4 : Bool × (List Int)) : (Int) → Ex → St → Prop
  | o, x, s => x = .nrm ∧ s = ⟨[(0, (.d t2 x1)), (2, (.ptr 100 0)), (3, (.d t12 o))], [(100, (.box (.vcons (.d t97 x4) .vnil)))]⟩

def f64_c0 (x2 : Int) (x3 : Bool) : Option (Int) :=
  (bif x3 then
    some (wrapI .u64 (0 - x2))
  else
    some x2)

theorem f64_c0_ok (x1 : Int) (x2 : Int) (x3 : Bool) (x4 : Bool × (List Int)) {out : (Int)} (h : f64_c0 x2 x3 = some out) : Run Pg 15 (sq2 (sq1 (sq2 (sq2 c_64)))) ⟨[(0, (.d t2 x1)), (2, (.ptr 100 0)), (3, (.d t12 x2)), (7, (.d t4 x3))], [(100, (.box (.vcons (.d t97 x4) .vnil)))]⟩ (f64_c0_post x1 x2 x3 x4 out) := by
  unfold f64_c0 at h
  refine Run.condN x3 (by kernel_rfl) (fun hb => ?_) (fun hb => ?_)
  · replace h := bif_t h hb
    refine Run.regE hX [] 400 [0, 2, 3] [100] ⟨[(0, (.d t2 x1)), (2, (.ptr 100 0)), (3, (.d t12 (wrapI .u64 (0 - x2))))], [(100, (.box (.vcons (.d t97 x4) .vnil)))]⟩ [] (by kernel_rfl) trivial ?_
    replace h := Option.some.inj h
    subst h
    exact ⟨rfl, by kernel_rfl⟩
  · replace h := bif_f h hb
    refine Run.keep (s' := ⟨[(0, (.d t2 x1)), (2, (.ptr 100 0)), (3, (.d t12 x2))], [(100, (.box (.vcons (.d t97 x4) .vnil)))]⟩) [0, 2, 3] [100] (by kernel_rfl) ?_
    refine Run.skipN (by kernel_rfl) ?_
    replace h := Option.some.inj h
    subst h
    exact ⟨rfl, by kernel_rfl⟩

def F64 (a0 : Int) : Option ((Bool × (List Int))) :=
  ((f64_c0 (wrapI .u64 a0) (decide (a0 < (0 : Int)))).bind fun o5 =>
    (F74 o5).bind fun y6 =>
    (F73 (decide (a0 < (0 : Int))) y6).bind fun y7 =>
    some y7)

theorem c64 {a0 : Int} {r : (Bool × (List Int))} (h : F64 a0 = some r) : CallPure Pg 64 [(.d t2 a0)] (.d t97 r) := by
  refine callPureN hX c_64 15 [.cell 2 98] [98] Go.Proofs.Try.func64 (by kernel_rfl) (by kernel_rfl) (by kernel_rfl) (Nat.le_of_ble_eq_true rfl) rfl rfl ?_
  show Run Pg 15 c_64 ⟨[(0, (.d t2 a0))], []⟩ (fin64 r)
  unfold F64 at h
  refine Run.regN hX [] 100 [0, 2] [100] ⟨[(0, (.d t2 a0)), (2, (.ptr 100 0))], [(100, (.box (.vcons (.d t97 (false, ([] : List Int))) .vnil)))]⟩ [] (by kernel_rfl) (by kernel_rfl) trivial ?_
  refine Run.regN hX [] 200 [0, 2, 3] [100] ⟨[(0, (.d t2 a0)), (2, (.ptr 100 0)), (3, (.d t12 (wrapI .u64 a0)))], [(100, (.box (.vcons (.d t97 (false, ([] : List Int))) .vnil)))]⟩ [] (by kernel_rfl) (by kernel_rfl) trivial ?_
  refine Run.seqN (by kernel_rfl) ?_
  refine Run.regN hX [] 300 [0, 2, 3, 7] [100] ⟨[(0, (.d t2 a0)), (2, (.ptr 100 0)), (3, (.d t12 (wrapI .u64 a0))), (7, (.d t4 (decide (a0 < (0 : Int)))))], [(100, (.box (.vcons (.d t97 (false, ([] : List Int))) .vnil)))]⟩ [] (by kernel_rfl) (by kernel_rfl) trivial ?_
  obtain ⟨o5, h_o5, h⟩ := bnd_elim h
  refine Run.mono (f64_c0_ok a0 (wrapI .u64 a0) (decide (a0 < (0 : Int))) (false, ([] : List Int)) h_o5) ?_
  rintro x s ⟨hx, hs⟩
  subst hx
  subst hs
  show Run Pg 15 _ _ _
  obtain ⟨y6, h_y6, h⟩ := bnd_elim h
  obtain ⟨y7, h_y7, h⟩ := bnd_elim h
  refine Run.regN hX [(3, .call (.d t96 y6)), (4, .call (.d t97 y7))] 500 [2] [100] ⟨[(2, (.ptr 100 0))], [(100, (.box (.vcons (.d t97 y7) .vnil)))]⟩ [CallPure Pg 74 [(.d t12 o5)] (.d t96 y6), CallPure Pg 73 [(.d t4 (decide (a0 < (0 : Int)))), (.d t96 y6)] (.d t97 y7)] (by kernel_rfl) (by kernel_rfl) ⟨(c74 h_y6), (c73 h_y7), trivial⟩ ?_
  refine Run.retN (by kernel_rfl) ?_
  replace h := Option.some.inj h
  subst h
  exact ⟨[(.d t97 y7)], by kernel_rfl, by kernel_rfl⟩

/-! ## f72 -/

noncomputable def c_72 : Code := body0 Go.Proofs.Try.f72

def fin72 (r : (Bool × (List Int))) : Ex → St → Prop := endK X0 [.cell 0 98] [98] (.d t97 r)

def F72  : Option ((Bool × (List Int))) :=
  (F64 (1 : Int)).bind fun y1 =>
  some y1

theorem c72  {r : (Bool × (List Int))} (h : F72  = some r) : CallPure Pg 72 [] (.d t97 r) := by
  refine callPureN hX c_72 2 [.cell 0 98] [98] Go.Proofs.Try.func72 (by kernel_rfl) (by kernel_rfl) (by kernel_rfl) (Nat.le_of_ble_eq_true rfl) rfl rfl ?_
  show Run Pg 2 c_72 ⟨[], []⟩ (fin72 r)
  unfold F72 at h
  refine Run.regN hX [] 100 [0] [100] ⟨[(0, (.ptr 100 0))], [(100, (.box (.vcons (.d t97 (false, ([] : List Int))) .vnil)))]⟩ [] (by kernel_rfl) (by kernel_rfl) trivial ?_
  obtain ⟨y1, h_y1, h⟩ := bnd_elim h
  refine Run.regN hX [(0, .call (.d t97 y1))] 200 [0] [100] ⟨[(0, (.ptr 100 0))], [(100, (.box (.vcons (.d t97 y1) .vnil)))]⟩ [CallPure Pg 64 [(.d t2 (1 : Int))] (.d t97 y1)] (by kernel_rfl) (by kernel_rfl) ⟨(c64 h_y1), trivial⟩ ?_
  refine Run.retN (by kernel_rfl) ?_
  replace h := Option.some.inj h
  subst h
  exact ⟨[(.d t97 y1)], by kernel_rfl, by kernel_rfl⟩

/-! ## f63 -/

noncomputable def c_63 : Code := body0 Go.Proofs.Try.f63

def fin63 (r : ((Bool × (List Int)) × (Bool × (List Int)))) : Ex → St → Prop := endK X0 [.cell 2 100] [100] (.d t99 r)

def F63 (a0 : Bool × (List Int)) : Option (((Bool × (List Int)) × (Bool × (List Int)))) :=
  (F72 ).bind fun y1 =>
  some (a0, y1)

theorem c63 {a0 : Bool × (List Int)} {r : ((Bool × (List Int)) × (Bool × (List Int)))} (h : F63 a0 = some r) : CallPure Pg 63 [(.d t97 a0)] (.d t99 r) := by
  refine callPureN hX c_63 6 [.cell 2 100] [100] Go.Proofs.Try.func63 (by kernel_rfl) (by kernel_rfl) (by kernel_rfl) (Nat.le_of_ble_eq_true rfl) rfl rfl ?_
  show Run Pg 6 c_63 ⟨[(0, (.d t97 a0))], []⟩ (fin63 r)
  unfold F63 at h
  refine Run.regN hX [] 100 [1, 2] [100, 101] ⟨[(1, (.ptr 100 0)), (2, (.ptr 101 0))], [(100, (.box (.vcons (.d t97 a0) .vnil))), (101, (.box (.vcons (.d t99 ((false, ([] : List Int)), (false, ([] : List Int)))) .vnil)))]⟩ [] (by kernel_rfl) (by kernel_rfl) trivial ?_
  obtain ⟨y1, h_y1, h⟩ := bnd_elim h
  refine Run.regN hX [(1, .call (.d t97 y1))] 200 [2] [101] ⟨[(2, (.ptr 101 0))], [(101, (.box (.vcons (.d t99 (a0, y1)) .vnil)))]⟩ [CallPure Pg 72 [] (.d t97 y1)] (by kernel_rfl) (by kernel_rfl) ⟨(c72 h_y1), trivial⟩ ?_
  refine Run.retN (by kernel_rfl) ?_
  replace h := Option.some.inj h
  subst h
  exact ⟨[(.d t99 (a0, y1))], by kernel_rfl, by kernel_rfl⟩

/-! ## f58 -/

noncomputable def c_58 : Code := body0 Go.Proofs.Try.f58

def fin58 (r : ((Bool × (List Int)) × (Bool × (List Int)))) : Ex → St → Prop := endK X0 [.cell 2 100] [100] (.d t99 r)

def F58 (a0 : Int) : Option (((Bool × (List Int)) × (Bool × (List Int)))) :=
  (F64 a0).bind fun y1 =>
  (F63 y1).bind fun y2 =>
  some y2

theorem c58 {a0 : Int} {r : ((Bool × (List Int)) × (Bool × (List Int)))} (h : F58 a0 = some r) : CallPure Pg 58 [(.d t2 a0)] (.d t99 r) := by
  refine callPureN hX c_58 6 [.cell 2 100] [100] Go.Proofs.Try.func58 (by kernel_rfl) (by kernel_rfl) (by kernel_rfl) (Nat.le_of_ble_eq_true rfl) rfl rfl ?_
  show Run Pg 6 c_58 ⟨[(0, (.d t2 a0))], []⟩ (fin58 r)
  unfold F58 at h
  refine Run.regN hX [] 100 [0, 2] [100] ⟨[(0, (.d t2 a0)), (2, (.ptr 100 0))], [(100, (.box (.vcons (.d t99 ((false, ([] : List Int)), (false, ([] : List Int)))) .vnil)))]⟩ [] (by kernel_rfl) (by kernel_rfl) trivial ?_
  obtain ⟨y1, h_y1, h⟩ := bnd_elim h
  obtain ⟨y2, h_y2, h⟩ := bnd_elim h
  refine Run.regN hX [(1, .call (.d t97 y1)), (2, .call (.d t99 y2))] 200 [2] [100] ⟨[(2, (.ptr 100 0))], [(100, (.box (.vcons (.d t99 y2) .vnil)))]⟩ [CallPure Pg 64 [(.d t2 a0)] (.d t97 y1), CallPure Pg 63 [(.d t97 y1)] (.d t99 y2)] (by kernel_rfl) (by kernel_rfl) ⟨(c64 h_y1), (c63 h_y2), trivial⟩ ?_
  refine Run.retN (by kernel_rfl) ?_
  replace h := Option.some.inj h
  subst h
  exact ⟨[(.d t99 y2)], by kernel_rfl, by kernel_rfl⟩

/-! ## f79 -/

noncomputable def c_79 : Code := body0 Go.Proofs.Try.f79

def fin79 (r : (List Int)) : Ex → St → Prop := endK X0 [.tmp 4] [96] (.d t96 r)

def f79_l1_post (x16 : List Int) (x17 : Int) (x18 : Int) (x20 : List Int) (x21 : Int) (x22 : Int) : (Int × (List Int)) → Ex → St → Prop
  | o, x, s => x = .out 2 ∧ s = ⟨[(1, (.d t96 x16)), (5, (.vec 205 t130)), (6, (.d t2 x17)), (8, (.d t12 o.1)), (18, (.d t96 x20)), (19, (.d t2 x21)), (20, (.d t2 x17))], [(205, (.vec 130 t130 o.2))]⟩

def f79_l1_b (x16 : List Int) (x17 : Int) (x18 : Int) (x22 : Int) (again : Int × Int × (List Int) → Option (Int × (List Int))) : Int × Int × (List Int) → Option (Int × (List Int))
  | (x19, x23, x24) =>
    (bif (decide (x23 < x22)) then
      gd (0 ≤ x23) <|
      gd (x23 < ((List.length x16 : Nat) : Int)) <|
      gd (0 ≤ (wrapI .i64 (x17 + x23))) <|
      gd ((wrapI .i64 (x17 + x23)) < ((List.length x24 : Nat) : Int)) <|
      gd ((toN (wrapI .i64 (x17 + x23))) < List.length x24) <|
      gd (0 ≤ (wrapI .i64 (x17 + x23))) <|
      gd ((wrapI .i64 (x17 + x23)) < ((List.length x24 : Nat) : Int)) <|
      gd ((toN (wrapI .i64 (x17 + x23))) < List.length x24) <|
      again ((wrapI .u64 (Int.tdiv (wrapI .u64 ((wrapI .u64 ((wrapI .u64 (List.getD x24 (toN (wrapI .i64 (x17 + x23))) (0 : Int))) + (wrapI .u64 ((wrapI .u64 x18) * (wrapI .u64 (List.getD x16 (toN x23) (0 : Int))))))) + x19)) (1000000000 : Int))), (wrapI .i64 (x23 + (1 : Int))), (List.set x24 (toN (wrapI .i64 (x17 + x23))) (wrapI .u32 (Int.tmod (wrapI .u64 ((wrapI .u64 ((wrapI .u64 (List.getD x24 (toN (wrapI .i64 (x17 + x23))) (0 : Int))) + (wrapI .u64 ((wrapI .u64 x18) * (wrapI .u64 (List.getD x16 (toN x23) (0 : Int))))))) + x19)) (1000000000 : Int)))))
    else
      some (x19, x24))

def f79_l1 (x16 : List Int) (x17 : Int) (x18 : Int) (x22 : Int) : Nat → Int × Int × (List Int) → Option (Int × (List Int)) := loopF (f79_l1_b x16 x17 x18 x22)

theorem f79_l1_ok (x16 : List Int) (x17 : Int) (x18 : Int) (x20 : List Int) (x21 : Int) (x22 : Int) (k : Nat) (x19 : Int) (x23 : Int) (x24 : List Int) {out : (Int × (List Int))} (h : f79_l1 x16 x17 x18 x22 k (x19, x23, x24) = some out) : Run Pg 68 (bk1 (sq2 (sq1 (sq2 (sq2 (bk1 (sq1 (sq2 (sq2 (lp1 (bk1 (sq2 (sq1 (sq2 (sq2 c_79))))))))))))))) ⟨[(1, (.d t96 x16)), (5, (.vec 205 t130)), (6, (.d t2 x17)), (7, (.d t130 x18)), (8, (.d t12 x19)), (18, (.d t96 x20)), (19, (.d t2 x21)), (20, (.d t2 x17)), (25, (.d t96 x16)), (26, (.d t2 x22)), (27, (.d t2 x23))], [(205, (.vec 130 t130 x24))]⟩ (f79_l1_post x16 x17 x18 x20 x21 x22 out) := by
  refine Run.loopN (by kernel_rfl) (fun m s => ∃ x19 x23 x24, s = ⟨[(1, (.d t96 x16)), (5, (.vec 205 t130)), (6, (.d t2 x17)), (7, (.d t130 x18)), (8, (.d t12 x19)), (18, (.d t96 x20)), (19, (.d t2 x21)), (20, (.d t2 x17)), (25, (.d t96 x16)), (26, (.d t2 x22)), (27, (.d t2 x23))], [(205, (.vec 130 t130 x24))]⟩ ∧ f79_l1 x16 x17 x18 x22 m (x19, x23, x24) = some out) ?_ k ⟨x19, x23, x24,  rfl, h⟩
  rintro m s ⟨x19, x23, x24,  rfl, h⟩
  cases m with
  | zero => cases h
  | succ m =>
  replace h : f79_l1_b x16 x17 x18 x22 (f79_l1 x16 x17 x18 x22 m) (x19, x23, x24) = some out := h
  unfold f79_l1_b at h
  refine Run.regN hX [] 800 [1, 5, 6, 7, 8, 18, 19, 20, 25, 26, 27, 28] [205] ⟨[(1, (.d t96 x16)), (5, (.vec 205 t130)), (6, (.d t2 x17)), (7, (.d t130 x18)), (8, (.d t12 x19)), (18, (.d t96 x20)), (19, (.d t2 x21)), (20, (.d t2 x17)), (25, (.d t96 x16)), (26, (.d t2 x22)), (27, (.d t2 x23)), (28, (.d t4 (decide (x23 < x22))))], [(205, (.vec 130 t130 x24))]⟩ [] (by kernel_rfl) (by kernel_rfl) trivial ?_
  refine Run.seqN (by kernel_rfl) ?_
  refine Run.condN (decide (x23 < x22)) (by kernel_rfl) (fun hb => ?_) (fun hb => ?_)
  · replace h := bif_t h hb
    refine Run.skipN (by kernel_rfl) ?_
    show Run Pg 68 _ _ _
    refine Run.seqN (by kernel_rfl) ?_
    refine Run.blockN 3 (by kernel_rfl) ?_
    obtain ⟨g_0, h⟩ := gd_elim h
    obtain ⟨g_1, h⟩ := gd_elim h
    refine Run.regN hX [] 900 [1, 5, 6, 7, 8, 9, 10, 18, 19, 20, 25, 26, 27] [205] ⟨[(1, (.d t96 x16)), (5, (.vec 205 t130)), (6, (.d t2 x17)), (7, (.d t130 x18)), (8, (.d t12 x19)), (9, (.d t2 x23)), (10, (.d t130 (List.getD x16 (toN x23) (0 : Int)))), (18, (.d t96 x20)), (19, (.d t2 x21)), (20, (.d t2 x17)), (25, (.d t96 x16)), (26, (.d t2 x22)), (27, (.d t2 x23))], [(205, (.vec 130 t130 x24))]⟩ [(0 ≤ x23), (x23 < ((List.length x16 : Nat) : Int))] (by kernel_rfl) (by kernel_rfl) ⟨g_0, g_1, trivial⟩ ?_
    obtain ⟨g_0, h⟩ := gd_elim h
    obtain ⟨g_1, h⟩ := gd_elim h
    obtain ⟨g_2, h⟩ := gd_elim h
    refine Run.regN hX [] 1000 [1, 5, 6, 7, 9, 11, 18, 19, 20, 25, 26, 27] [205] ⟨[(1, (.d t96 x16)), (5, (.vec 205 t130)), (6, (.d t2 x17)), (7, (.d t130 x18)), (9, (.d t2 x23)), (11, (.d t12 (wrapI .u64 ((wrapI .u64 ((wrapI .u64 (List.getD x24 (toN (wrapI .i64 (x17 + x23))) (0 : Int))) + (wrapI .u64 ((wrapI .u64 x18) * (wrapI .u64 (List.getD x16 (toN x23) (0 : Int))))))) + x19)))), (18, (.d t96 x20)), (19, (.d t2 x21)), (20, (.d t2 x17)), (25, (.d t96 x16)), (26, (.d t2 x22)), (27, (.d t2 x23))], [(205, (.vec 130 t130 x24))]⟩ [(0 ≤ (wrapI .i64 (x17 + x23))), ((wrapI .i64 (x17 + x23)) < ((List.length x24 : Nat) : Int)), ((toN (wrapI .i64 (x17 + x23))) < List.length x24)] (by kernel_rfl) (by kernel_rfl) ⟨g_0, g_1, g_2, trivial⟩ ?_
    obtain ⟨g_2, h⟩ := gd_elim h
    obtain ⟨g_3, h⟩ := gd_elim h
    obtain ⟨g_4, h⟩ := gd_elim h
    refine Run.regE hX [] 1100 [1, 5, 6, 7, 8, 18, 19, 20, 25, 26, 27] [205] ⟨[(1, (.d t96 x16)), (5, (.vec 205 t130)), (6, (.d t2 x17)), (7, (.d t130 x18)), (8, (.d t12 (wrapI .u64 (Int.tdiv (wrapI .u64 ((wrapI .u64 ((wrapI .u64 (List.getD x24 (toN (wrapI .i64 (x17 + x23))) (0 : Int))) + (wrapI .u64 ((wrapI .u64 x18) * (wrapI .u64 (List.getD x16 (toN x23) (0 : Int))))))) + x19)) (1000000000 : Int))))), (18, (.d t96 x20)), (19, (.d t2 x21)), (20, (.d t2 x17)), (25, (.d t96 x16)), (26, (.d t2 x22)), (27, (.d t2 x23))], [(205, (.vec 130 t130 (List.set x24 (toN (wrapI .i64 (x17 + x23))) (wrapI .u32 (Int.tmod (wrapI .u64 ((wrapI .u64 ((wrapI .u64 (List.getD x24 (toN (wrapI .i64 (x17 + x23))) (0 : Int))) + (wrapI .u64 ((wrapI .u64 x18) * (wrapI .u64 (List.getD x16 (toN x23) (0 : Int))))))) + x19)) (1000000000 : Int))))))]⟩ [((1000000000 : Int) ≠ 0), ((1000000000 : Int) ≠ 0), (0 ≤ (wrapI .i64 (x17 + x23))), ((wrapI .i64 (x17 + x23)) < ((List.length x24 : Nat) : Int)), ((toN (wrapI .i64 (x17 + x23))) < List.length x24)] (by kernel_rfl) ⟨(by decide), (by decide), g_2, g_3, g_4, trivial⟩ ?_
    show Run Pg 68 _ _ _
    refine Run.regE hX [] 1200 [1, 5, 6, 7, 8, 18, 19, 20, 25, 26, 27] [205] ⟨[(1, (.d t96 x16)), (5, (.vec 205 t130)), (6, (.d t2 x17)), (7, (.d t130 x18)), (8, (.d t12 (wrapI .u64 (Int.tdiv (wrapI .u64 ((wrapI .u64 ((wrapI .u64 (List.getD x24 (toN (wrapI .i64 (x17 + x23))) (0 : Int))) + (wrapI .u64 ((wrapI .u64 x18) * (wrapI .u64 (List.getD x16 (toN x23) (0 : Int))))))) + x19)) (1000000000 : Int))))), (18, (.d t96 x20)), (19, (.d t2 x21)), (20, (.d t2 x17)), (25, (.d t96 x16)), (26, (.d t2 x22)), (27, (.d t2 (wrapI .i64 (x23 + (1 : Int)))))], [(205, (.vec 130 t130 (List.set x24 (toN (wrapI .i64 (x17 + x23))) (wrapI .u32 (Int.tmod (wrapI .u64 ((wrapI .u64 ((wrapI .u64 (List.getD x24 (toN (wrapI .i64 (x17 + x23))) (0 : Int))) + (wrapI .u64 ((wrapI .u64 x18) * (wrapI .u64 (List.getD x16 (toN x23) (0 : Int))))))) + x19)) (1000000000 : Int))))))]⟩ [] (by kernel_rfl) trivial ?_
    exact ⟨m, Nat.lt_succ_self m, _, _, _, rfl, h⟩
  · replace h := bif_f h hb
    refine Run.keep (s' := ⟨[(1, (.d t96 x16)), (5, (.vec 205 t130)), (6, (.d t2 x17)), (8, (.d t12 x19)), (18, (.d t96 x20)), (19, (.d t2 x21)), (20, (.d t2 x17))], [(205, (.vec 130 t130 x24))]⟩) [1, 5, 6, 8, 18, 19, 20] [205] (by kernel_rfl) ?_
    refine Run.exitN 2 (by kernel_rfl) ?_
    replace h := Option.some.inj h
    subst h
    exact ⟨rfl, by kernel_rfl⟩

def f79_l0_post (x1 : List Int) (x2 : List Int) (x3 : Int) : ((List Int)) → Ex → St → Prop
  | o, x, s => x = .out 0 ∧ s = ⟨[(5, (.vec 205 t130))], [(205, (.vec 130 t130 o))]⟩

def f79_l0_b (x1 : List Int) (x2 : List Int) (x3 : Int) (again : Int × (List Int) → Option ((List Int))) : Int × (List Int) → Option ((List Int))
  | (x4, x5) =>
    (bif (decide (x4 < x3)) then
      gd (0 ≤ x4) <|
      gd (x4 < ((List.length x2 : Nat) : Int)) <|
      ((f79_l1 x1 x4 (List.getD x2 (toN x4) (0 : Int)) (ofN (List.length x1)) (2 + List.length x1 + List.length x2 + List.length x5) ((0 : Int), (0 : Int), x5)).bind fun o25 =>
        gd (0 ≤ (wrapI .i64 (x4 + (ofN (List.length x1))))) <|
        gd ((wrapI .i64 (x4 + (ofN (List.length x1)))) < ((List.length o25.2 : Nat) : Int)) <|
        gd ((toN (wrapI .i64 (x4 + (ofN (List.length x1))))) < List.length o25.2) <|
        again ((wrapI .i64 (x4 + (1 : Int))), (List.set o25.2 (toN (wrapI .i64 (x4 + (ofN (List.length x1))))) (wrapI .u32 o25.1))))
    else
      some x5)

def f79_l0 (x1 : List Int) (x2 : List Int) (x3 : Int) : Nat → Int × (List Int) → Option ((List Int)) := loopF (f79_l0_b x1 x2 x3)

theorem f79_l0_ok (x1 : List Int) (x2 : List Int) (x3 : Int) (k : Nat) (x4 : Int) (x5 : List Int) {out : ((List Int))} (h : f79_l0 x1 x2 x3 k (x4, x5) = some out) : Run Pg 68 (bk1 (sq2 (sq1 (sq2 (sq2 c_79))))) ⟨[(1, (.d t96 x1)), (5, (.vec 205 t130)), (18, (.d t96 x2)), (19, (.d t2 x3)), (20, (.d t2 x4))], [(205, (.vec 130 t130 x5))]⟩ (f79_l0_post x1 x2 x3 out) := by
  refine Run.loopN (by kernel_rfl) (fun m s => ∃ x4 x5, s = ⟨[(1, (.d t96 x1)), (5, (.vec 205 t130)), (18, (.d t96 x2)), (19, (.d t2 x3)), (20, (.d t2 x4))], [(205, (.vec 130 t130 x5))]⟩ ∧ f79_l0 x1 x2 x3 m (x4, x5) = some out) ?_ k ⟨x4, x5,  rfl, h⟩
  rintro m s ⟨x4, x5,  rfl, h⟩
  cases m with
  | zero => cases h
  | succ m =>
  replace h : f79_l0_b x1 x2 x3 (f79_l0 x1 x2 x3 m) (x4, x5) = some out := h
  unfold f79_l0_b at h
  refine Run.regN hX [] 400 [1, 5, 18, 19, 20, 21] [205] ⟨[(1, (.d t96 x1)), (5, (.vec 205 t130)), (18, (.d t96 x2)), (19, (.d t2 x3)), (20, (.d t2 x4)), (21, (.d t4 (decide (x4 < x3))))], [(205, (.vec 130 t130 x5))]⟩ [] (by kernel_rfl) (by kernel_rfl) trivial ?_
  refine Run.seqN (by kernel_rfl) ?_
  refine Run.condN (decide (x4 < x3)) (by kernel_rfl) (fun hb => ?_) (fun hb => ?_)
  · replace h := bif_t h hb
    refine Run.skipN (by kernel_rfl) ?_
    show Run Pg 68 _ _ _
    refine Run.seqN (by kernel_rfl) ?_
    refine Run.blockN 1 (by kernel_rfl) ?_
    obtain ⟨g_0, h⟩ := gd_elim h
    obtain ⟨g_1, h⟩ := gd_elim h
    refine Run.regN hX [] 500 [1, 5, 6, 7, 18, 19, 20] [205] ⟨[(1, (.d t96 x1)), (5, (.vec 205 t130)), (6, (.d t2 x4)), (7, (.d t130 (List.getD x2 (toN x4) (0 : Int)))), (18, (.d t96 x2)), (19, (.d t2 x3)), (20, (.d t2 x4))], [(205, (.vec 130 t130 x5))]⟩ [(0 ≤ x4), (x4 < ((List.length x2 : Nat) : Int))] (by kernel_rfl) (by kernel_rfl) ⟨g_0, g_1, trivial⟩ ?_
    refine Run.regN hX [] 600 [1, 5, 6, 7, 8, 18, 19, 20] [205] ⟨[(1, (.d t96 x1)), (5, (.vec 205 t130)), (6, (.d t2 x4)), (7, (.d t130 (List.getD x2 (toN x4) (0 : Int)))), (8, (.d t12 (0 : Int))), (18, (.d t96 x2)), (19, (.d t2 x3)), (20, (.d t2 x4))], [(205, (.vec 130 t130 x5))]⟩ [] (by kernel_rfl) (by kernel_rfl) trivial ?_
    refine Run.seqN (by kernel_rfl) ?_
    refine Run.regN hX [] 700 [1, 5, 6, 7, 8, 18, 19, 20, 25, 26, 27] [205] ⟨[(1, (.d t96 x1)), (5, (.vec 205 t130)), (6, (.d t2 x4)), (7, (.d t130 (List.getD x2 (toN x4) (0 : Int)))), (8, (.d t12 (0 : Int))), (18, (.d t96 x2)), (19, (.d t2 x3)), (20, (.d t2 x4)), (25, (.d t96 x1)), (26, (.d t2 (ofN (List.length x1)))), (27, (.d t2 (0 : Int)))], [(205, (.vec 130 t130 x5))]⟩ [] (by kernel_rfl) (by kernel_rfl) trivial ?_
    refine Run.blockN 2 (by kernel_rfl) ?_
    obtain ⟨o25, h_o25, h⟩ := bnd_elim h
    refine Run.mono (f79_l1_ok x1 x4 (List.getD x2 (toN x4) (0 : Int)) x2 x3 (ofN (List.length x1)) _ (0 : Int) (0 : Int) x5 h_o25) ?_
    rintro x s ⟨hx, hs⟩
    subst hx
    subst hs
    show Run Pg 68 _ _ _
    obtain ⟨g_0, h⟩ := gd_elim h
    obtain ⟨g_1, h⟩ := gd_elim h
    obtain ⟨g_2, h⟩ := gd_elim h
    refine Run.regE hX [] 1300 [1, 5, 18, 19, 20] [205] ⟨[(1, (.d t96 x1)), (5, (.vec 205 t130)), (18, (.d t96 x2)), (19, (.d t2 x3)), (20, (.d t2 x4))], [(205, (.vec 130 t130 (List.set o25.2 (toN (wrapI .i64 (x4 + (ofN (List.length x1))))) (wrapI .u32 o25.1))))]⟩ [(0 ≤ (wrapI .i64 (x4 + (ofN (List.length x1))))), ((wrapI .i64 (x4 + (ofN (List.length x1)))) < ((List.length o25.2 : Nat) : Int)), ((toN (wrapI .i64 (x4 + (ofN (List.length x1))))) < List.length o25.2)] (by kernel_rfl) ⟨g_0, g_1, g_2, trivial⟩ ?_
    show Run Pg 68 _ _ _
    refine Run.regE hX [] 1400 [1, 5, 18, 19, 20] [205] ⟨[(1, (.d t96 x1)), (5, (.vec 205 t130)), (18, (.d t96 x2)), (19, (.d t2 x3)), (20, (.d t2 (wrapI .i64 (x4 + (1 : Int)))))], [(205, (.vec 130 t130 (List.set o25.2 (toN (wrapI .i64 (x4 + (ofN (List.length x1))))) (wrapI .u32 o25.1))))]⟩ [] (by kernel_rfl) trivial ?_
    exact ⟨m, Nat.lt_succ_self m, _, _, rfl, h⟩
  · replace h := bif_f h hb
    refine Run.keep (s' := ⟨[(5, (.vec 205 t130))], [(205, (.vec 130 t130 x5))]⟩) [5] [205] (by kernel_rfl) ?_
    refine Run.exitN 0 (by kernel_rfl) ?_
    replace h := Option.some.inj h
    subst h
    exact ⟨rfl, by kernel_rfl⟩

def F79 (a0 : List Int) (a1 : List Int) : Option ((List Int)) :=
  gd (0 ≤ (wrapI .i64 ((ofN (List.length a0)) + (ofN (List.length a1))))) <|
  gd ((wrapI .i64 ((ofN (List.length a0)) + (ofN (List.length a1)))) ≤ (wrapI .i64 ((ofN (List.length a0)) + (ofN (List.length a1))))) <|
  gd ((wrapI .i64 ((ofN (List.length a0)) + (ofN (List.length a1)))) ≤ 1073741824) <|
  ((f79_l0 a1 a0 (ofN (List.length a0)) (2 + List.length a1 + List.length a0 + List.length (List.replicate (toN (wrapI .i64 ((ofN (List.length a0)) + (ofN (List.length a1))))) (0 : Int))) ((0 : Int), (List.replicate (toN (wrapI .i64 ((ofN (List.length a0)) + (ofN (List.length a1))))) (0 : Int)))).bind fun o26 =>
    some o26)

theorem c79 {a0 : List Int} {a1 : List Int} {r : (List Int)} (h : F79 a0 a1 = some r) : CallPure Pg 79 [(.d t96 a0), (.d t96 a1)] (.d t96 r) := by
  refine callPureN hX c_79 68 [.tmp 4] [96] Go.Proofs.Try.func79 (by kernel_rfl) (by kernel_rfl) (by kernel_rfl) (Nat.le_of_ble_eq_true rfl) rfl rfl ?_
  show Run Pg 68 c_79 ⟨[(0, (.d t96 a0)), (1, (.d t96 a1))], []⟩ (fin79 r)
  unfold F79 at h
  refine Run.regN hX [] 100 [0, 1] [] ⟨[(0, (.d t96 a0)), (1, (.d t96 a1))], []⟩ [] (by kernel_rfl) (by kernel_rfl) trivial ?_
  obtain ⟨g_0, h⟩ := gd_elim h
  obtain ⟨g_1, h⟩ := gd_elim h
  obtain ⟨g_2, h⟩ := gd_elim h
  refine Run.regN hX [] 200 [0, 1, 5] [205] ⟨[(0, (.d t96 a0)), (1, (.d t96 a1)), (5, (.vec 205 t130))], [(205, (.vec 130 t130 (List.replicate (toN (wrapI .i64 ((ofN (List.length a0)) + (ofN (List.length a1))))) (0 : Int))))]⟩ [(0 ≤ (wrapI .i64 ((ofN (List.length a0)) + (ofN (List.length a1))))), ((wrapI .i64 ((ofN (List.length a0)) + (ofN (List.length a1)))) ≤ (wrapI .i64 ((ofN (List.length a0)) + (ofN (List.length a1))))), ((wrapI .i64 ((ofN (List.length a0)) + (ofN (List.length a1)))) ≤ 1073741824)] (by kernel_rfl) (by kernel_rfl) ⟨g_0, g_1, g_2, trivial⟩ ?_
  refine Run.seqN (by kernel_rfl) ?_
  refine Run.regN hX [] 300 [1, 5, 18, 19, 20] [205] ⟨[(1, (.d t96 a1)), (5, (.vec 205 t130)), (18, (.d t96 a0)), (19, (.d t2 (ofN (List.length a0)))), (20, (.d t2 (0 : Int)))], [(205, (.vec 130 t130 (List.replicate (toN (wrapI .i64 ((ofN (List.length a0)) + (ofN (List.length a1))))) (0 : Int))))]⟩ [] (by kernel_rfl) (by kernel_rfl) trivial ?_
  refine Run.blockN 0 (by kernel_rfl) ?_
  obtain ⟨o26, h_o26, h⟩ := bnd_elim h
  refine Run.mono (f79_l0_ok a1 a0 (ofN (List.length a0)) _ (0 : Int) (List.replicate (toN (wrapI .i64 ((ofN (List.length a0)) + (ofN (List.length a1))))) (0 : Int)) h_o26) ?_
  rintro x s ⟨hx, hs⟩
  subst hx
  subst hs
  show Run Pg 68 _ _ _
  refine Run.regN hX [] 1500 [4] [205] ⟨[(4, (.vec 205 t130))], [(205, (.vec 130 t130 o26))]⟩ [] (by kernel_rfl) (by kernel_rfl) trivial ?_
  refine Run.freeze (s' := ⟨[(4, (.d t96 o26))], []⟩) 205 (by kernel_rfl) ?_
  refine Run.retN (by kernel_rfl) ?_
  replace h := Option.some.inj h
  subst h
  exact ⟨[(.d t96 o26)], by kernel_rfl, by kernel_rfl⟩

/-! ## f66 -/

noncomputable def c_66 : Code := body0 Go.Proofs.Try.f66

def fin66 (r : (Bool × (List Int))) : Ex → St → Prop := endK X0 [.cell 4 98] [98] (.d t97 r)

def F66 (a0 : Bool × (List Int)) (a1 : Bool × (List Int)) : Option ((Bool × (List Int))) :=
  (F79 a0.2 a1.2).bind fun y1 =>
  (F73 (!(a0.1 == a1.1)) y1).bind fun y2 =>
  some y2

theorem c66 {a0 : Bool × (List Int)} {a1 : Bool × (List Int)} {r : (Bool × (List Int))} (h : F66 a0 a1 = some r) : CallPure Pg 66 [(.d t97 a0), (.d t97 a1)] (.d t97 r) := by
  refine callPureN hX c_66 16 [.cell 4 98] [98] Go.Proofs.Try.func66 (by kernel_rfl) (by kernel_rfl) (by kernel_rfl) (Nat.le_of_ble_eq_true rfl) rfl rfl ?_
  show Run Pg 16 c_66 ⟨[(0, (.d t97 a0)), (1, (.d t97 a1))], []⟩ (fin66 r)
  unfold F66 at h
  refine Run.regN hX [] 100 [2, 3, 4] [100, 101, 102] ⟨[(2, (.ptr 100 0)), (3, (.ptr 101 0)), (4, (.ptr 102 0))], [(100, (.box (.vcons (.d t97 a0) .vnil))), (101, (.box (.vcons (.d t97 a1) .vnil))), (102, (.box (.vcons (.d t97 (false, ([] : List Int))) .vnil)))]⟩ [] (by kernel_rfl) (by kernel_rfl) trivial ?_
  obtain ⟨y1, h_y1, h⟩ := bnd_elim h
  obtain ⟨y2, h_y2, h⟩ := bnd_elim h
  refine Run.regN hX [(9, .call (.d t96 y1)), (10, .call (.d t97 y2))] 200 [4] [102] ⟨[(4, (.ptr 102 0))], [(102, (.box (.vcons (.d t97 y2) .vnil)))]⟩ [CallPure Pg 79 [(.d t96 a0.2), (.d t96 a1.2)] (.d t96 y1), CallPure Pg 73 [(.d t4 (!(a0.1 == a1.1))), (.d t96 y1)] (.d t97 y2)] (by kernel_rfl) (by kernel_rfl) ⟨(c79 h_y1), (c73 h_y2), trivial⟩ ?_
  refine Run.retN (by kernel_rfl) ?_
  replace h := Option.some.inj h
  subst h
  exact ⟨[(.d t97 y2)], by kernel_rfl, by kernel_rfl⟩

/-! ## f75 -/

noncomputable def c_75 : Code := body0 Go.Proofs.Try.f75

def fin75 (r : Int) : Ex → St → Prop := endK X0 [.tmp 2] [3] (.d t2 r)

def F75 (a0 : Bool × (List Int)) : Option (Int) :=
  (bif a0.1 then
    some (-1 : Int)
  else
    (bif (decide ((0 : Int) < (ofN (List.length a0.2)))) then
      some (1 : Int)
    else
      some (0 : Int)))

theorem c75 {a0 : Bool × (List Int)} {r : Int} (h : F75 a0 = some r) : CallPure Pg 75 [(.d t97 a0)] (.d t2 r) := by
  refine callPureN hX c_75 11 [.tmp 2] [3] Go.Proofs.Try.func75 (by kernel_rfl) (by kernel_rfl) (by kernel_rfl) (Nat.le_of_ble_eq_true rfl) rfl rfl ?_
  show Run Pg 11 c_75 ⟨[(0, (.d t97 a0))], []⟩ (fin75 r)
  unfold F75 at h
  refine Run.regN hX [] 100 [1] [100] ⟨[(1, (.ptr 100 0))], [(100, (.box (.vcons (.d t97 a0) .vnil)))]⟩ [] (by kernel_rfl) (by kernel_rfl) trivial ?_
  refine Run.seqN (by kernel_rfl) ?_
  refine Run.blockN 0 (by kernel_rfl) ?_
  refine Run.regN hX [] 200 [1, 3] [100] ⟨[(1, (.ptr 100 0)), (3, (.d t4 a0.1))], [(100, (.box (.vcons (.d t97 a0) .vnil)))]⟩ [] (by kernel_rfl) (by kernel_rfl) trivial ?_
  refine Run.condN a0.1 (by kernel_rfl) (fun hb => ?_) (fun hb => ?_)
  · replace h := bif_t h hb
    refine Run.regN hX [] 300 [2] [] ⟨[(2, (.d t2 (-1 : Int)))], []⟩ [] (by kernel_rfl) (by kernel_rfl) trivial ?_
    refine Run.retN (by kernel_rfl) ?_
    replace h := Option.some.inj h
    subst h
    exact ⟨[(.d t2 (-1 : Int))], by kernel_rfl, by kernel_rfl⟩
  · replace h := bif_f h hb
    refine Run.regN hX [] 400 [6] [] ⟨[(6, (.d t4 (decide ((0 : Int) < (ofN (List.length a0.2))))))], []⟩ [] (by kernel_rfl) (by kernel_rfl) trivial ?_
    refine Run.condN (decide ((0 : Int) < (ofN (List.length a0.2)))) (by kernel_rfl) (fun hb => ?_) (fun hb => ?_)
    · replace h := bif_t h hb
      refine Run.regN hX [] 500 [2] [] ⟨[(2, (.d t2 (1 : Int)))], []⟩ [] (by kernel_rfl) (by kernel_rfl) trivial ?_
      refine Run.retN (by kernel_rfl) ?_
      replace h := Option.some.inj h
      subst h
      exact ⟨[(.d t2 (1 : Int))], by kernel_rfl, by kernel_rfl⟩
    · replace h := bif_f h hb
      refine Run.skipN (by kernel_rfl) ?_
      show Run Pg 11 _ _ _
      refine Run.regN hX [] 600 [2] [] ⟨[(2, (.d t2 (0 : Int)))], []⟩ [] (by kernel_rfl) (by kernel_rfl) trivial ?_
      refine Run.retN (by kernel_rfl) ?_
      replace h := Option.some.inj h
      subst h
      exact ⟨[(.d t2 (0 : Int))], by kernel_rfl, by kernel_rfl⟩

/-! ## f76 -/

noncomputable def c_76 : Code := body0 Go.Proofs.Try.f76

def fin76 (r : (Bool × (List Int))) : Ex → St → Prop := endK X0 [.cell 2 98] [98] (.d t97 r)

def F76 (a0 : Bool × (List Int)) : Option ((Bool × (List Int))) :=
  gd (List.length a0.2 ≤ 1073741824) <|
  (F73 (!a0.1) a0.2).bind fun y1 =>
  some y1

theorem c76 {a0 : Bool × (List Int)} {r : (Bool × (List Int))} (h : F76 a0 = some r) : CallPure Pg 76 [(.d t97 a0)] (.d t97 r) := by
  refine callPureN hX c_76 10 [.cell 2 98] [98] Go.Proofs.Try.func76 (by kernel_rfl) (by kernel_rfl) (by kernel_rfl) (Nat.le_of_ble_eq_true rfl) rfl rfl ?_
  show Run Pg 10 c_76 ⟨[(0, (.d t97 a0))], []⟩ (fin76 r)
  unfold F76 at h
  refine Run.regN hX [] 100 [1, 2] [100, 101] ⟨[(1, (.ptr 100 0)), (2, (.ptr 101 0))], [(100, (.box (.vcons (.d t97 a0) .vnil))), (101, (.box (.vcons (.d t97 (false, ([] : List Int))) .vnil)))]⟩ [] (by kernel_rfl) (by kernel_rfl) trivial ?_
  obtain ⟨g_0, h⟩ := gd_elim h
  obtain ⟨y1, h_y1, h⟩ := bnd_elim h
  refine Run.regN hX [(6, .call (.d t97 y1))] 200 [2] [101] ⟨[(2, (.ptr 101 0))], [(101, (.box (.vcons (.d t97 y1) .vnil)))]⟩ [(List.length a0.2 ≤ 1073741824), CallPure Pg 73 [(.d t4 (!a0.1)), (.d t96 a0.2)] (.d t97 y1)] (by kernel_rfl) (by kernel_rfl) ⟨g_0, (c73 h_y1), trivial⟩ ?_
  refine Run.retN (by kernel_rfl) ?_
  replace h := Option.some.inj h
  subst h
  exact ⟨[(.d t97 y1)], by kernel_rfl, by kernel_rfl⟩

/-! ## f87 -/

noncomputable def c_87 : Code := body0 Go.Proofs.Try.f87

def fin87 (r : Int × Bool) : Ex → St → Prop := endK X0 [.tmp 2, .tmp 3] [120, 4] (.tup (.vcons (.d t12 r.1) (.vcons (.d t4 r.2) .vnil)))

def F87 (a0 : Bool × (List Int)) : Option (Int × Bool) :=
  (bif ((ofN (List.length a0.2)) == (0 : Int)) then
    some ((0 : Int), true)
  else
    (bif ((ofN (List.length a0.2)) == (1 : Int)) then
      gd ((0 : Int) < ((List.length a0.2 : Nat) : Int)) <|
      some ((wrapI .u64 (List.getD a0.2 (toN (0 : Int)) (0 : Int))), true)
    else
      (bif ((ofN (List.length a0.2)) == (2 : Int)) then
        gd ((1 : Int) < ((List.length a0.2 : Nat) : Int)) <|
        gd ((0 : Int) < ((List.length a0.2 : Nat) : Int)) <|
        some ((wrapI .u64 ((wrapI .u64 ((wrapI .u64 (List.getD a0.2 (toN (1 : Int)) (0 : Int))) * (1000000000 : Int))) + (wrapI .u64 (List.getD a0.2 (toN (0 : Int)) (0 : Int))))), true)
      else
        some ((0 : Int), false))))

theorem c87 {a0 : Bool × (List Int)} {r : Int × Bool} (h : F87 a0 = some r) : CallPure Pg 87 [(.d t97 a0)] (.tup (.vcons (.d t12 r.1) (.vcons (.d t4 r.2) .vnil))) := by
  refine callPureN hX c_87 30 [.tmp 2, .tmp 3] [120, 4] Go.Proofs.Try.func87 (by kernel_rfl) (by kernel_rfl) (by kernel_rfl) (Nat.le_of_ble_eq_true rfl) rfl rfl ?_
  show Run Pg 30 c_87 ⟨[(0, (.d t97 a0))], []⟩ (fin87 r)
  unfold F87 at h
  refine Run.regN hX [] 100 [1] [100] ⟨[(1, (.ptr 100 0))], [(100, (.box (.vcons (.d t97 a0) .vnil)))]⟩ [] (by kernel_rfl) (by kernel_rfl) trivial ?_
  refine Run.seqN (by kernel_rfl) ?_
  refine Run.regN hX [] 200 [1, 6] [100] ⟨[(1, (.ptr 100 0)), (6, (.d t2 (ofN (List.length a0.2))))], [(100, (.box (.vcons (.d t97 a0) .vnil)))]⟩ [] (by kernel_rfl) (by kernel_rfl) trivial ?_
  refine Run.blockN 0 (by kernel_rfl) ?_
  refine Run.regN hX [] 300 [1, 6, 7] [100] ⟨[(1, (.ptr 100 0)), (6, (.d t2 (ofN (List.length a0.2)))), (7, (.d t4 ((ofN (List.length a0.2)) == (0 : Int))))], [(100, (.box (.vcons (.d t97 a0) .vnil)))]⟩ [] (by kernel_rfl) (by kernel_rfl) trivial ?_
  refine Run.condN ((ofN (List.length a0.2)) == (0 : Int)) (by kernel_rfl) (fun hb => ?_) (fun hb => ?_)
  · replace h := bif_t h hb
    refine Run.regN hX [] 400 [2, 3] [] ⟨[(2, (.d t12 (0 : Int))), (3, (.d t4 true))], []⟩ [] (by kernel_rfl) (by kernel_rfl) trivial ?_
    refine Run.retN (by kernel_rfl) ?_
    replace h := Option.some.inj h
    subst h
    exact ⟨[(.d t12 (0 : Int)), (.d t4 true)], by kernel_rfl, by kernel_rfl⟩
  · replace h := bif_f h hb
    refine Run.regN hX [] 500 [1, 6, 9] [100] ⟨[(1, (.ptr 100 0)), (6, (.d t2 (ofN (List.length a0.2)))), (9, (.d t4 ((ofN (List.length a0.2)) == (1 : Int))))], [(100, (.box (.vcons (.d t97 a0) .vnil)))]⟩ [] (by kernel_rfl) (by kernel_rfl) trivial ?_
    refine Run.condN ((ofN (List.length a0.2)) == (1 : Int)) (by kernel_rfl) (fun hb => ?_) (fun hb => ?_)
    · replace h := bif_t h hb
      obtain ⟨g_1, h⟩ := gd_elim h
      refine Run.regN hX [] 600 [2, 3] [] ⟨[(2, (.d t12 (wrapI .u64 (List.getD a0.2 (toN (0 : Int)) (0 : Int))))), (3, (.d t4 true))], []⟩ [(0 ≤ (0 : Int)), ((0 : Int) < ((List.length a0.2 : Nat) : Int))] (by kernel_rfl) (by kernel_rfl) ⟨(by decide), g_1, trivial⟩ ?_
      refine Run.retN (by kernel_rfl) ?_
      replace h := Option.some.inj h
      subst h
      exact ⟨[(.d t12 (wrapI .u64 (List.getD a0.2 (toN (0 : Int)) (0 : Int)))), (.d t4 true)], by kernel_rfl, by kernel_rfl⟩
    · replace h := bif_f h hb
      refine Run.regN hX [] 700 [1, 16] [100] ⟨[(1, (.ptr 100 0)), (16, (.d t4 ((ofN (List.length a0.2)) == (2 : Int))))], [(100, (.box (.vcons (.d t97 a0) .vnil)))]⟩ [] (by kernel_rfl) (by kernel_rfl) trivial ?_
      refine Run.condN ((ofN (List.length a0.2)) == (2 : Int)) (by kernel_rfl) (fun hb => ?_) (fun hb => ?_)
      · replace h := bif_t h hb
        obtain ⟨g_1, h⟩ := gd_elim h
        obtain ⟨g_3, h⟩ := gd_elim h
        refine Run.regN hX [] 800 [2, 3] [] ⟨[(2, (.d t12 (wrapI .u64 ((wrapI .u64 ((wrapI .u64 (List.getD a0.2 (toN (1 : Int)) (0 : Int))) * (1000000000 : Int))) + (wrapI .u64 (List.getD a0.2 (toN (0 : Int)) (0 : Int))))))), (3, (.d t4 true))], []⟩ [(0 ≤ (1 : Int)), ((1 : Int) < ((List.length a0.2 : Nat) : Int)), (0 ≤ (0 : Int)), ((0 : Int) < ((List.length a0.2 : Nat) : Int))] (by kernel_rfl) (by kernel_rfl) ⟨(by decide), g_1, (by decide), g_3, trivial⟩ ?_
        refine Run.retN (by kernel_rfl) ?_
        replace h := Option.some.inj h
        subst h
        exact ⟨[(.d t12 (wrapI .u64 ((wrapI .u64 ((wrapI .u64 (List.getD a0.2 (toN (1 : Int)) (0 : Int))) * (1000000000 : Int))) + (wrapI .u64 (List.getD a0.2 (toN (0 : Int)) (0 : Int)))))), (.d t4 true)], by kernel_rfl, by kernel_rfl⟩
      · replace h := bif_f h hb
        refine Run.skipN (by kernel_rfl) ?_
        show Run Pg 30 _ _ _
        refine Run.regN hX [] 900 [2, 3] [] ⟨[(2, (.d t12 (0 : Int))), (3, (.d t4 false))], []⟩ [] (by kernel_rfl) (by kernel_rfl) trivial ?_
        refine Run.retN (by kernel_rfl) ?_
        replace h := Option.some.inj h
        subst h
        exact ⟨[(.d t12 (0 : Int)), (.d t4 false)], by kernel_rfl, by kernel_rfl⟩

/-! ## f90 -/

noncomputable def c_90 : Code := body0 Go.Proofs.Try.f90

def fin90 (r : (List Int)) : Ex → St → Prop := endK X0 [.tmp 2] [96] (.d t96 r)

def f90_l0_post  : ((List Int)) → Ex → St → Prop
  | o, x, s => x = .out 0 ∧ s = ⟨[(0, (.d t96 o))], []⟩

def f90_l0_b  (again : (List Int) → Option ((List Int))) : (List Int) → Option ((List Int))
  | x1 =>
    (bif (decide ((0 : Int) < (ofN (List.length x1)))) then
      gd (0 ≤ (wrapI .i64 ((ofN (List.length x1)) - (1 : Int)))) <|
      gd ((wrapI .i64 ((ofN (List.length x1)) - (1 : Int))) < ((List.length x1 : Nat) : Int)) <|
      (bif ((List.getD x1 (toN (wrapI .i64 ((ofN (List.length x1)) - (1 : Int)))) (0 : Int)) == (0 : Int)) then
        gd (0 ≤ (wrapI .i64 ((ofN (List.length x1)) - (1 : Int)))) <|
        gd ((wrapI .i64 ((ofN (List.length x1)) - (1 : Int))) ≤ ((List.length x1 : Nat) : Int)) <|
        again (List.take (Int.toNat (wrapI .i64 ((ofN (List.length x1)) - (1 : Int)))) x1)
      else
        some x1)
    else
      some x1)

def f90_l0  : Nat → (List Int) → Option ((List Int)) := loopF (f90_l0_b )

theorem f90_l0_ok  (k : Nat) (x1 : List Int) {out : ((List Int))} (h : f90_l0  k x1 = some out) : Run Pg 21 (bk1 (sq1 (sq2 c_90))) ⟨[(0, (.d t96 x1))], []⟩ (f90_l0_post  out) := by
  refine Run.loopN (by kernel_rfl) (fun m s => ∃ x1, s = ⟨[(0, (.d t96 x1))], []⟩ ∧ f90_l0  m x1 = some out) ?_ k ⟨x1,  rfl, h⟩
  rintro m s ⟨x1,  rfl, h⟩
  cases m with
  | zero => cases h
  | succ m =>
  replace h : f90_l0_b  (f90_l0  m) x1 = some out := h
  unfold f90_l0_b at h
  refine Run.seqN (by kernel_rfl) ?_
  rcases bif_elim h with ⟨hb0, h⟩ | ⟨hb0, h⟩
  · obtain ⟨g_1, h⟩ := gd_elim h
    obtain ⟨g_2, h⟩ := gd_elim h
    refine Run.regN hX [(3, .b true)] 200 [0, 14] [] ⟨[(0, (.d t96 x1)), (14, (.d t4 ((List.getD x1 (toN (wrapI .i64 ((ofN (List.length x1)) - (1 : Int)))) (0 : Int)) == (0 : Int))))], []⟩ [(decide ((0 : Int) < (ofN (List.length x1)))) = true, (0 ≤ (wrapI .i64 ((ofN (List.length x1)) - (1 : Int)))), ((wrapI .i64 ((ofN (List.length x1)) - (1 : Int))) < ((List.length x1 : Nat) : Int))] (by kernel_rfl) (by kernel_rfl) ⟨hb0, g_1, g_2, trivial⟩ ?_
    refine Run.condN ((List.getD x1 (toN (wrapI .i64 ((ofN (List.length x1)) - (1 : Int)))) (0 : Int)) == (0 : Int)) (by kernel_rfl) (fun hb => ?_) (fun hb => ?_)
    · replace h := bif_t h hb
      refine Run.skipN (by kernel_rfl) ?_
      show Run Pg 21 _ _ _
      refine Run.blockN 1 (by kernel_rfl) ?_
      obtain ⟨g_0, h⟩ := gd_elim h
      obtain ⟨g_1, h⟩ := gd_elim h
      refine Run.regE hX [] 300 [0] [] ⟨[(0, (.d t96 (List.take (Int.toNat (wrapI .i64 ((ofN (List.length x1)) - (1 : Int)))) x1)))], []⟩ [(0 ≤ (wrapI .i64 ((ofN (List.length x1)) - (1 : Int)))), ((wrapI .i64 ((ofN (List.length x1)) - (1 : Int))) ≤ ((List.length x1 : Nat) : Int))] (by kernel_rfl) ⟨g_0, g_1, trivial⟩ ?_
      exact ⟨m, Nat.lt_succ_self m, _, rfl, h⟩
    · replace h := bif_f h hb
      refine Run.keep (s' := ⟨[(0, (.d t96 x1))], []⟩) [0] [] (by kernel_rfl) ?_
      refine Run.exitN 0 (by kernel_rfl) ?_
      replace h := Option.some.inj h
      subst h
      exact ⟨rfl, by kernel_rfl⟩
  · refine Run.regN hX [(3, .b false)] 200 [0, 14] [] ⟨[(0, (.d t96 x1)), (14, (.d t4 false))], []⟩ [(decide ((0 : Int) < (ofN (List.length x1)))) = false] (by kernel_rfl) (by kernel_rfl) ⟨hb0, trivial⟩ ?_
    refine Run.condN false (by kernel_rfl) (fun hb => (by cases hb)) (fun hb => ?_)
    refine Run.keep (s' := ⟨[(0, (.d t96 x1))], []⟩) [0] [] (by kernel_rfl) ?_
    refine Run.exitN 0 (by kernel_rfl) ?_
    replace h := Option.some.inj h
    subst h
    exact ⟨rfl, by kernel_rfl⟩

def F90 (a0 : List Int) : Option ((List Int)) :=
  ((f90_l0  (2 + List.length a0) a0).bind fun o2 =>
    some o2)

theorem c90 {a0 : List Int} {r : (List Int)} (h : F90 a0 = some r) : CallPure Pg 90 [(.d t96 a0)] (.d t96 r) := by
  refine callPureN hX c_90 21 [.tmp 2] [96] Go.Proofs.Try.func90 (by kernel_rfl) (by kernel_rfl) (by kernel_rfl) (Nat.le_of_ble_eq_true rfl) rfl rfl ?_
  show Run Pg 21 c_90 ⟨[(0, (.d t96 a0))], []⟩ (fin90 r)
  unfold F90 at h
  refine Run.regN hX [] 100 [0] [] ⟨[(0, (.d t96 a0))], []⟩ [] (by kernel_rfl) (by kernel_rfl) trivial ?_
  refine Run.seqN (by kernel_rfl) ?_
  refine Run.blockN 0 (by kernel_rfl) ?_
  obtain ⟨o2, h_o2, h⟩ := bnd_elim h
  refine Run.mono (f90_l0_ok  _ a0 h_o2) ?_
  rintro x s ⟨hx, hs⟩
  subst hx
  subst hs
  show Run Pg 21 _ _ _
  refine Run.regN hX [] 400 [2] [] ⟨[(2, (.d t96 o2))], []⟩ [] (by kernel_rfl) (by kernel_rfl) trivial ?_
  refine Run.retN (by kernel_rfl) ?_
  replace h := Option.some.inj h
  subst h
  exact ⟨[(.d t96 o2)], by kernel_rfl, by kernel_rfl⟩

/-! ## f94 -/

noncomputable def c_94 : Code := body0 Go.Proofs.Try.f94

def fin94 (r : (List Int) × (List Int)) : Ex → St → Prop := endK X0 [.tmp 4, .tmp 5] [96, 96] (.tup (.vcons (.d t96 r.1) (.vcons (.d t96 r.2) .vnil)))

def f94_l0_post (x1 : List Int) (x2 : Int) : (Int × (List Int)) → Ex → St → Prop
  | o, x, s => x = .out 0 ∧ s = ⟨[(6, (.vec 202 t130)), (7, (.d t12 o.1))], [(202, (.vec 130 t130 o.2))]⟩

def f94_l0_b (x1 : List Int) (x2 : Int) (again : Int × Int × (List Int) → Option (Int × (List Int))) : Int × Int × (List Int) → Option (Int × (List Int))
  | (x3, x4, x5) =>
    (bif (decide ((0 : Int) ≤ x4)) then
      gd (0 ≤ x4) <|
      gd (x4 < ((List.length x1 : Nat) : Int)) <|
      gd ((wrapI .u64 x2) ≠ 0) <|
      gd ((wrapI .u64 x2) ≠ 0) <|
      gd (0 ≤ x4) <|
      gd (x4 < ((List.length x5 : Nat) : Int)) <|
      gd ((toN x4) < List.length x5) <|
      again ((Int.tmod (wrapI .u64 ((wrapI .u64 (x3 * (1000000000 : Int))) + (wrapI .u64 (List.getD x1 (toN x4) (0 : Int))))) (wrapI .u64 x2)), (wrapI .i64 (x4 - (1 : Int))), (List.set x5 (toN x4) (wrapI .u32 (wrapI .u64 (Int.tdiv (wrapI .u64 ((wrapI .u64 (x3 * (1000000000 : Int))) + (wrapI .u64 (List.getD x1 (toN x4) (0 : Int))))) (wrapI .u64 x2))))))
    else
      some (x3, x5))

def f94_l0 (x1 : List Int) (x2 : Int) : Nat → Int × Int × (List Int) → Option (Int × (List Int)) := loopF (f94_l0_b x1 x2)

theorem f94_l0_ok (x1 : List Int) (x2 : Int) (k : Nat) (x3 : Int) (x4 : Int) (x5 : List Int) {out : (Int × (List Int))} (h : f94_l0 x1 x2 k (x3, x4, x5) = some out) : Run Pg 44 (bk1 (sq2 (sq1 (sq2 (sq2 (sq2 c_94)))))) ⟨[(0, (.d t96 x1)), (1, (.d t130 x2)), (6, (.vec 202 t130)), (7, (.d t12 x3)), (8, (.d t2 x4))], [(202, (.vec 130 t130 x5))]⟩ (f94_l0_post x1 x2 out) := by
  refine Run.loopN (by kernel_rfl) (fun m s => ∃ x3 x4 x5, s = ⟨[(0, (.d t96 x1)), (1, (.d t130 x2)), (6, (.vec 202 t130)), (7, (.d t12 x3)), (8, (.d t2 x4))], [(202, (.vec 130 t130 x5))]⟩ ∧ f94_l0 x1 x2 m (x3, x4, x5) = some out) ?_ k ⟨x3, x4, x5,  rfl, h⟩
  rintro m s ⟨x3, x4, x5,  rfl, h⟩
  cases m with
  | zero => cases h
  | succ m =>
  replace h : f94_l0_b x1 x2 (f94_l0 x1 x2 m) (x3, x4, x5) = some out := h
  unfold f94_l0_b at h
  refine Run.seqN (by kernel_rfl) ?_
  refine Run.regN hX [] 500 [0, 1, 6, 7, 8, 17] [202] ⟨[(0, (.d t96 x1)), (1, (.d t130 x2)), (6, (.vec 202 t130)), (7, (.d t12 x3)), (8, (.d t2 x4)), (17, (.d t4 (decide ((0 : Int) ≤ x4))))], [(202, (.vec 130 t130 x5))]⟩ [] (by kernel_rfl) (by kernel_rfl) trivial ?_
  refine Run.condN (decide ((0 : Int) ≤ x4)) (by kernel_rfl) (fun hb => ?_) (fun hb => ?_)
  · replace h := bif_t h hb
    refine Run.skipN (by kernel_rfl) ?_
    show Run Pg 44 _ _ _
    refine Run.seqN (by kernel_rfl) ?_
    refine Run.blockN 1 (by kernel_rfl) ?_
    obtain ⟨g_0, h⟩ := gd_elim h
    obtain ⟨g_1, h⟩ := gd_elim h
    refine Run.regN hX [] 700 [0, 1, 6, 8, 9] [202] ⟨[(0, (.d t96 x1)), (1, (.d t130 x2)), (6, (.vec 202 t130)), (8, (.d t2 x4)), (9, (.d t12 (wrapI .u64 ((wrapI .u64 (x3 * (1000000000 : Int))) + (wrapI .u64 (List.getD x1 (toN x4) (0 : Int)))))))], [(202, (.vec 130 t130 x5))]⟩ [(0 ≤ x4), (x4 < ((List.length x1 : Nat) : Int))] (by kernel_rfl) (by kernel_rfl) ⟨g_0, g_1, trivial⟩ ?_
    obtain ⟨g_0, h⟩ := gd_elim h
    obtain ⟨g_1, h⟩ := gd_elim h
    obtain ⟨g_2, h⟩ := gd_elim h
    obtain ⟨g_3, h⟩ := gd_elim h
    obtain ⟨g_4, h⟩ := gd_elim h
    refine Run.regE hX [] 800 [0, 1, 6, 7, 8] [202] ⟨[(0, (.d t96 x1)), (1, (.d t130 x2)), (6, (.vec 202 t130)), (7, (.d t12 (Int.tmod (wrapI .u64 ((wrapI .u64 (x3 * (1000000000 : Int))) + (wrapI .u64 (List.getD x1 (toN x4) (0 : Int))))) (wrapI .u64 x2)))), (8, (.d t2 x4))], [(202, (.vec 130 t130 (List.set x5 (toN x4) (wrapI .u32 (wrapI .u64 (Int.tdiv (wrapI .u64 ((wrapI .u64 (x3 * (1000000000 : Int))) + (wrapI .u64 (List.getD x1 (toN x4) (0 : Int))))) (wrapI .u64 x2)))))))]⟩ [((wrapI .u64 x2) ≠ 0), ((wrapI .u64 x2) ≠ 0), (0 ≤ x4), (x4 < ((List.length x5 : Nat) : Int)), ((toN x4) < List.length x5)] (by kernel_rfl) ⟨g_0, g_1, g_2, g_3, g_4, trivial⟩ ?_
    show Run Pg 44 _ _ _
    refine Run.regE hX [] 600 [0, 1, 6, 7, 8] [202] ⟨[(0, (.d t96 x1)), (1, (.d t130 x2)), (6, (.vec 202 t130)), (7, (.d t12 (Int.tmod (wrapI .u64 ((wrapI .u64 (x3 * (1000000000 : Int))) + (wrapI .u64 (List.getD x1 (toN x4) (0 : Int))))) (wrapI .u64 x2)))), (8, (.d t2 (wrapI .i64 (x4 - (1 : Int)))))], [(202, (.vec 130 t130 (List.set x5 (toN x4) (wrapI .u32 (wrapI .u64 (Int.tdiv (wrapI .u64 ((wrapI .u64 (x3 * (1000000000 : Int))) + (wrapI .u64 (List.getD x1 (toN x4) (0 : Int))))) (wrapI .u64 x2)))))))]⟩ [] (by kernel_rfl) trivial ?_
    exact ⟨m, Nat.lt_succ_self m, _, _, _, rfl, h⟩
  · replace h := bif_f h hb
    refine Run.keep (s' := ⟨[(6, (.vec 202 t130)), (7, (.d t12 x3))], [(202, (.vec 130 t130 x5))]⟩) [6, 7] [202] (by kernel_rfl) ?_
    refine Run.exitN 0 (by kernel_rfl) ?_
    replace h := Option.some.inj h
    subst h
    exact ⟨rfl, by kernel_rfl⟩

def F94 (a0 : List Int) (a1 : Int) : Option ((List Int) × (List Int)) :=
  gd (0 ≤ (ofN (List.length a0))) <|
  gd ((ofN (List.length a0)) ≤ (ofN (List.length a0))) <|
  gd ((ofN (List.length a0)) ≤ 1073741824) <|
  ((f94_l0 a0 a1 (2 + List.length a0 + List.length (List.replicate (toN (ofN (List.length a0))) (0 : Int))) ((0 : Int), (wrapI .i64 ((ofN (List.length a0)) - (1 : Int))), (List.replicate (toN (ofN (List.length a0))) (0 : Int)))).bind fun o6 =>
    some (o6.2, ([(wrapI .u32 o6.1)] : List Int)))

theorem c94 {a0 : List Int} {a1 : Int} {r : (List Int) × (List Int)} (h : F94 a0 a1 = some r) : CallPure Pg 94 [(.d t96 a0), (.d t130 a1)] (.tup (.vcons (.d t96 r.1) (.vcons (.d t96 r.2) .vnil))) := by
  refine callPureN hX c_94 44 [.tmp 4, .tmp 5] [96, 96] Go.Proofs.Try.func94 (by kernel_rfl) (by kernel_rfl) (by kernel_rfl) (Nat.le_of_ble_eq_true rfl) rfl rfl ?_
  show Run Pg 44 c_94 ⟨[(0, (.d t96 a0)), (1, (.d t130 a1))], []⟩ (fin94 r)
  unfold F94 at h
  refine Run.regN hX [] 100 [0, 1] [] ⟨[(0, (.d t96 a0)), (1, (.d t130 a1))], []⟩ [] (by kernel_rfl) (by kernel_rfl) trivial ?_
  obtain ⟨g_0, h⟩ := gd_elim h
  obtain ⟨g_1, h⟩ := gd_elim h
  obtain ⟨g_2, h⟩ := gd_elim h
  refine Run.regN hX [] 200 [0, 1, 6] [202] ⟨[(0, (.d t96 a0)), (1, (.d t130 a1)), (6, (.vec 202 t130))], [(202, (.vec 130 t130 (List.replicate (toN (ofN (List.length a0))) (0 : Int))))]⟩ [(0 ≤ (ofN (List.length a0))), ((ofN (List.length a0)) ≤ (ofN (List.length a0))), ((ofN (List.length a0)) ≤ 1073741824)] (by kernel_rfl) (by kernel_rfl) ⟨g_0, g_1, g_2, trivial⟩ ?_
  refine Run.regN hX [] 300 [0, 1, 6, 7] [202] ⟨[(0, (.d t96 a0)), (1, (.d t130 a1)), (6, (.vec 202 t130)), (7, (.d t12 (0 : Int)))], [(202, (.vec 130 t130 (List.replicate (toN (ofN (List.length a0))) (0 : Int))))]⟩ [] (by kernel_rfl) (by kernel_rfl) trivial ?_
  refine Run.seqN (by kernel_rfl) ?_
  refine Run.regN hX [] 400 [0, 1, 6, 7, 8] [202] ⟨[(0, (.d t96 a0)), (1, (.d t130 a1)), (6, (.vec 202 t130)), (7, (.d t12 (0 : Int))), (8, (.d t2 (wrapI .i64 ((ofN (List.length a0)) - (1 : Int)))))], [(202, (.vec 130 t130 (List.replicate (toN (ofN (List.length a0))) (0 : Int))))]⟩ [] (by kernel_rfl) (by kernel_rfl) trivial ?_
  refine Run.blockN 0 (by kernel_rfl) ?_
  obtain ⟨o6, h_o6, h⟩ := bnd_elim h
  refine Run.mono (f94_l0_ok a0 a1 _ (0 : Int) (wrapI .i64 ((ofN (List.length a0)) - (1 : Int))) (List.replicate (toN (ofN (List.length a0))) (0 : Int)) h_o6) ?_
  rintro x s ⟨hx, hs⟩
  subst hx
  subst hs
  show Run Pg 44 _ _ _
  refine Run.regN hX [] 900 [4, 5] [202] ⟨[(4, (.vec 202 t130)), (5, (.d t96 ([(wrapI .u32 o6.1)] : List Int)))], [(202, (.vec 130 t130 o6.2))]⟩ [] (by kernel_rfl) (by kernel_rfl) trivial ?_
  refine Run.freeze (s' := ⟨[(4, (.d t96 o6.2)), (5, (.d t96 ([(wrapI .u32 o6.1)] : List Int)))], []⟩) 202 (by kernel_rfl) ?_
  refine Run.retN (by kernel_rfl) ?_
  replace h := Option.some.inj h
  subst h
  exact ⟨[(.d t96 o6.2), (.d t96 ([(wrapI .u32 o6.1)] : List Int))], by kernel_rfl, by kernel_rfl⟩

/-! ## f81 -/

noncomputable def c_81 : Code := body0 Go.Proofs.Try.f81

def fin81 (r : Int) : Ex → St → Prop := endK X0 [.tmp 4] [3] (.d t2 r)

def f81_l0_post (x3 : List Int) (x4 : List Int) : ((Unit) ⊕ (Int)) → Ex → St → Prop
  | .inl o, x, s => x = .out 0 ∧ s = ⟨[], []⟩
  | .inr o, x, s => x = .ret ∧ fin81  o x s

def f81_l0_b (x3 : List Int) (x4 : List Int) (again : Int → Option ((Unit) ⊕ (Int))) : Int → Option ((Unit) ⊕ (Int))
  | x5 =>
    (bif (decide ((0 : Int) ≤ x5)) then
      gd (0 ≤ x5) <|
      gd (x5 < ((List.length x3 : Nat) : Int)) <|
      gd (0 ≤ x5) <|
      gd (x5 < ((List.length x4 : Nat) : Int)) <|
      (bif (decide ((List.getD x3 (toN x5) (0 : Int)) < (List.getD x4 (toN x5) (0 : Int)))) then
        some (.inr (-1 : Int))
      else
        gd (0 ≤ x5) <|
        gd (x5 < ((List.length x3 : Nat) : Int)) <|
        gd (0 ≤ x5) <|
        gd (x5 < ((List.length x4 : Nat) : Int)) <|
        (bif (decide ((List.getD x4 (toN x5) (0 : Int)) < (List.getD x3 (toN x5) (0 : Int)))) then
          some (.inr (1 : Int))
        else
          again (wrapI .i64 (x5 - (1 : Int)))))
    else
      some (.inl ()))

def f81_l0 (x3 : List Int) (x4 : List Int) : Nat → Int → Option ((Unit) ⊕ (Int)) := loopF (f81_l0_b x3 x4)

theorem f81_l0_ok (x3 : List Int) (x4 : List Int) (k : Nat) (x5 : Int) {out : ((Unit) ⊕ (Int))} (h : f81_l0 x3 x4 k x5 = some out) : Run Pg 45 (bk1 (sq2 (sq1 (sq2 (sq2 (sq2 c_81)))))) ⟨[(0, (.d t96 x3)), (1, (.d t96 x4)), (5, (.d t2 x5))], []⟩ (f81_l0_post x3 x4 out) := by
  refine Run.loopN (by kernel_rfl) (fun m s => ∃ x5, s = ⟨[(0, (.d t96 x3)), (1, (.d t96 x4)), (5, (.d t2 x5))], []⟩ ∧ f81_l0 x3 x4 m x5 = some out) ?_ k ⟨x5,  rfl, h⟩
  rintro m s ⟨x5,  rfl, h⟩
  cases m with
  | zero => cases h
  | succ m =>
  replace h : f81_l0_b x3 x4 (f81_l0 x3 x4 m) x5 = some out := h
  unfold f81_l0_b at h
  refine Run.seqN (by kernel_rfl) ?_
  refine Run.regN hX [] 800 [0, 1, 5, 24] [] ⟨[(0, (.d t96 x3)), (1, (.d t96 x4)), (5, (.d t2 x5)), (24, (.d t4 (decide ((0 : Int) ≤ x5))))], []⟩ [] (by kernel_rfl) (by kernel_rfl) trivial ?_
  refine Run.condN (decide ((0 : Int) ≤ x5)) (by kernel_rfl) (fun hb => ?_) (fun hb => ?_)
  · replace h := bif_t h hb
    refine Run.skipN (by kernel_rfl) ?_
    show Run Pg 45 _ _ _
    refine Run.seqN (by kernel_rfl) ?_
    refine Run.blockN 1 (by kernel_rfl) ?_
    refine Run.seqN (by kernel_rfl) ?_
    obtain ⟨g_0, h⟩ := gd_elim h
    obtain ⟨g_1, h⟩ := gd_elim h
    obtain ⟨g_2, h⟩ := gd_elim h
    obtain ⟨g_3, h⟩ := gd_elim h
    refine Run.regN hX [] 1000 [0, 1, 5, 35] [] ⟨[(0, (.d t96 x3)), (1, (.d t96 x4)), (5, (.d t2 x5)), (35, (.d t4 (decide ((List.getD x3 (toN x5) (0 : Int)) < (List.getD x4 (toN x5) (0 : Int))))))], []⟩ [(0 ≤ x5), (x5 < ((List.length x3 : Nat) : Int)), (0 ≤ x5), (x5 < ((List.length x4 : Nat) : Int))] (by kernel_rfl) (by kernel_rfl) ⟨g_0, g_1, g_2, g_3, trivial⟩ ?_
    refine Run.condN (decide ((List.getD x3 (toN x5) (0 : Int)) < (List.getD x4 (toN x5) (0 : Int)))) (by kernel_rfl) (fun hb => ?_) (fun hb => ?_)
    · replace h := bif_t h hb
      refine Run.regN hX [] 1100 [4] [] ⟨[(4, (.d t2 (-1 : Int)))], []⟩ [] (by kernel_rfl) (by kernel_rfl) trivial ?_
      refine Run.retN (by kernel_rfl) ?_
      replace h := Option.some.inj h
      subst h
      exact ⟨rfl, [(.d t2 (-1 : Int))], by kernel_rfl, by kernel_rfl⟩
    · replace h := bif_f h hb
      refine Run.skipN (by kernel_rfl) ?_
      show Run Pg 45 _ _ _
      obtain ⟨g_0, h⟩ := gd_elim h
      obtain ⟨g_1, h⟩ := gd_elim h
      obtain ⟨g_2, h⟩ := gd_elim h
      obtain ⟨g_3, h⟩ := gd_elim h
      refine Run.regN hX [] 1200 [0, 1, 5, 44] [] ⟨[(0, (.d t96 x3)), (1, (.d t96 x4)), (5, (.d t2 x5)), (44, (.d t4 (decide ((List.getD x4 (toN x5) (0 : Int)) < (List.getD x3 (toN x5) (0 : Int))))))], []⟩ [(0 ≤ x5), (x5 < ((List.length x3 : Nat) : Int)), (0 ≤ x5), (x5 < ((List.length x4 : Nat) : Int))] (by kernel_rfl) (by kernel_rfl) ⟨g_0, g_1, g_2, g_3, trivial⟩ ?_
      refine Run.condN (decide ((List.getD x4 (toN x5) (0 : Int)) < (List.getD x3 (toN x5) (0 : Int)))) (by kernel_rfl) (fun hb => ?_) (fun hb => ?_)
      · replace h := bif_t h hb
        refine Run.regN hX [] 1300 [4] [] ⟨[(4, (.d t2 (1 : Int)))], []⟩ [] (by kernel_rfl) (by kernel_rfl) trivial ?_
        refine Run.retN (by kernel_rfl) ?_
        replace h := Option.some.inj h
        subst h
        exact ⟨rfl, [(.d t2 (1 : Int))], by kernel_rfl, by kernel_rfl⟩
      · replace h := bif_f h hb
        refine Run.skipN (by kernel_rfl) ?_
        show Run Pg 45 _ _ _
        refine Run.regE hX [] 900 [0, 1, 5] [] ⟨[(0, (.d t96 x3)), (1, (.d t96 x4)), (5, (.d t2 (wrapI .i64 (x5 - (1 : Int)))))], []⟩ [] (by kernel_rfl) trivial ?_
        exact ⟨m, Nat.lt_succ_self m, _, rfl, h⟩
  · replace h := bif_f h hb
    refine Run.keep (s' := ⟨[], []⟩) [] [] (by kernel_rfl) ?_
    refine Run.exitN 0 (by kernel_rfl) ?_
    replace h := Option.some.inj h
    subst h
    exact ⟨rfl, by kernel_rfl⟩

def F81 (a0 : List Int) (a1 : List Int) : Option (Int) :=
  (F90 a0).bind fun y1 =>
  (F90 a1).bind fun y2 =>
  (bif ((ofN (List.length y1)) != (ofN (List.length y2))) then
    (bif (decide ((ofN (List.length y1)) < (ofN (List.length y2)))) then
      some (-1 : Int)
    else
      some (1 : Int))
  else
    ((f81_l0 y1 y2 (2 + List.length y1 + List.length y2) (wrapI .i64 ((ofN (List.length y1)) - (1 : Int)))).bind fun o6 => match o6 with
      | .inl o7 =>
          some (0 : Int)
      | .inr o8 =>
          some o8))

theorem c81 {a0 : List Int} {a1 : List Int} {r : Int} (h : F81 a0 a1 = some r) : CallPure Pg 81 [(.d t96 a0), (.d t96 a1)] (.d t2 r) := by
  refine callPureN hX c_81 45 [.tmp 4] [3] Go.Proofs.Try.func81 (by kernel_rfl) (by kernel_rfl) (by kernel_rfl) (Nat.le_of_ble_eq_true rfl) rfl rfl ?_
  show Run Pg 45 c_81 ⟨[(0, (.d t96 a0)), (1, (.d t96 a1))], []⟩ (fin81 r)
  unfold F81 at h
  refine Run.regN hX [] 100 [0, 1] [] ⟨[(0, (.d t96 a0)), (1, (.d t96 a1))], []⟩ [] (by kernel_rfl) (by kernel_rfl) trivial ?_
  obtain ⟨y1, h_y1, h⟩ := bnd_elim h
  obtain ⟨y2, h_y2, h⟩ := bnd_elim h
  refine Run.regN hX [(1, .call (.d t96 y1)), (3, .call (.d t96 y2))] 200 [0, 1] [] ⟨[(0, (.d t96 y1)), (1, (.d t96 y2))], []⟩ [CallPure Pg 90 [(.d t96 a0)] (.d t96 y1), CallPure Pg 90 [(.d t96 a1)] (.d t96 y2)] (by kernel_rfl) (by kernel_rfl) ⟨(c90 h_y1), (c90 h_y2), trivial⟩ ?_
  refine Run.seqN (by kernel_rfl) ?_
  refine Run.regN hX [] 300 [0, 1, 14] [] ⟨[(0, (.d t96 y1)), (1, (.d t96 y2)), (14, (.d t4 ((ofN (List.length y1)) != (ofN (List.length y2)))))], []⟩ [] (by kernel_rfl) (by kernel_rfl) trivial ?_
  refine Run.condN ((ofN (List.length y1)) != (ofN (List.length y2))) (by kernel_rfl) (fun hb => ?_) (fun hb => ?_)
  · replace h := bif_t h hb
    refine Run.seqN (by kernel_rfl) ?_
    refine Run.regN hX [] 400 [19] [] ⟨[(19, (.d t4 (decide ((ofN (List.length y1)) < (ofN (List.length y2))))))], []⟩ [] (by kernel_rfl) (by kernel_rfl) trivial ?_
    refine Run.condN (decide ((ofN (List.length y1)) < (ofN (List.length y2)))) (by kernel_rfl) (fun hb => ?_) (fun hb => ?_)
    · replace h := bif_t h hb
      refine Run.regN hX [] 500 [4] [] ⟨[(4, (.d t2 (-1 : Int)))], []⟩ [] (by kernel_rfl) (by kernel_rfl) trivial ?_
      refine Run.retN (by kernel_rfl) ?_
      replace h := Option.some.inj h
      subst h
      exact ⟨[(.d t2 (-1 : Int))], by kernel_rfl, by kernel_rfl⟩
    · replace h := bif_f h hb
      refine Run.skipN (by kernel_rfl) ?_
      show Run Pg 45 _ _ _
      refine Run.regN hX [] 600 [4] [] ⟨[(4, (.d t2 (1 : Int)))], []⟩ [] (by kernel_rfl) (by kernel_rfl) trivial ?_
      refine Run.retN (by kernel_rfl) ?_
      replace h := Option.some.inj h
      subst h
      exact ⟨[(.d t2 (1 : Int))], by kernel_rfl, by kernel_rfl⟩
  · replace h := bif_f h hb
    refine Run.skipN (by kernel_rfl) ?_
    show Run Pg 45 _ _ _
    refine Run.seqN (by kernel_rfl) ?_
    refine Run.regN hX [] 700 [0, 1, 5] [] ⟨[(0, (.d t96 y1)), (1, (.d t96 y2)), (5, (.d t2 (wrapI .i64 ((ofN (List.length y1)) - (1 : Int)))))], []⟩ [] (by kernel_rfl) (by kernel_rfl) trivial ?_
    refine Run.blockN 0 (by kernel_rfl) ?_
    obtain ⟨o6, h_o6, h⟩ := bnd_elim h
    refine Run.mono (f81_l0_ok y1 y2 _ (wrapI .i64 ((ofN (List.length y1)) - (1 : Int))) h_o6) ?_
    rcases o6 with o7 | o8
    · rintro x s ⟨hx, hs⟩
      subst hx
      subst hs
      show Run Pg 45 _ _ _
      refine Run.regN hX [] 1400 [4] [] ⟨[(4, (.d t2 (0 : Int)))], []⟩ [] (by kernel_rfl) (by kernel_rfl) trivial ?_
      refine Run.retN (by kernel_rfl) ?_
      replace h := Option.some.inj h
      subst h
      exact ⟨[(.d t2 (0 : Int))], by kernel_rfl, by kernel_rfl⟩
    · rintro x s ⟨hx, hr⟩
      subst hx
      replace h := Option.some.inj h
      subst h
      exact hr

/-! ## f79 -/

def fin79o (r : (List Int)) : Ex → St → Prop := endO X0 [.tmp 4] 130 t130 r

def f79o_l1_post (x16 : List Int) (x17 : Int) (x18 : Int) (x20 : List Int) (x21 : Int) (x22 : Int) : (Int × (List Int)) → Ex → St → Prop
  | o, x, s => x = .out 2 ∧ s = ⟨[(1, (.d t96 x16)), (5, (.vec 205 t130)), (6, (.d t2 x17)), (8, (.d t12 o.1)), (18, (.d t96 x20)), (19, (.d t2 x21)), (20, (.d t2 x17))], [(205, (.vec 130 t130 o.2))]⟩

def f79o_l1_b (x16 : List Int) (x17 : Int) (x18 : Int) (x22 : Int) (again : Int × Int × (List Int) → Option (Int × (List Int))) : Int × Int × (List Int) → Option (Int × (List Int))
  | (x19, x23, x24) =>
    (bif (decide (x23 < x22)) then
      gd (0 ≤ x23) <|
      gd (x23 < ((List.length x16 : Nat) : Int)) <|
      gd (0 ≤ (wrapI .i64 (x17 + x23))) <|
      gd ((wrapI .i64 (x17 + x23)) < ((List.length x24 : Nat) : Int)) <|
      gd ((toN (wrapI .i64 (x17 + x23))) < List.length x24) <|
      gd (0 ≤ (wrapI .i64 (x17 + x23))) <|
      gd ((wrapI .i64 (x17 + x23)) < ((List.length x24 : Nat) : Int)) <|
      gd ((toN (wrapI .i64 (x17 + x23))) < List.length x24) <|
      again ((wrapI .u64 (Int.tdiv (wrapI .u64 ((wrapI .u64 ((wrapI .u64 (List.getD x24 (toN (wrapI .i64 (x17 + x23))) (0 : Int))) + (wrapI .u64 ((wrapI .u64 x18) * (wrapI .u64 (List.getD x16 (toN x23) (0 : Int))))))) + x19)) (1000000000 : Int))), (wrapI .i64 (x23 + (1 : Int))), (List.set x24 (toN (wrapI .i64 (x17 + x23))) (wrapI .u32 (Int.tmod (wrapI .u64 ((wrapI .u64 ((wrapI .u64 (List.getD x24 (toN (wrapI .i64 (x17 + x23))) (0 : Int))) + (wrapI .u64 ((wrapI .u64 x18) * (wrapI .u64 (List.getD x16 (toN x23) (0 : Int))))))) + x19)) (1000000000 : Int)))))
    else
      some (x19, x24))

def f79o_l1 (x16 : List Int) (x17 : Int) (x18 : Int) (x22 : Int) : Nat → Int × Int × (List Int) → Option (Int × (List Int)) := loopF (f79o_l1_b x16 x17 x18 x22)

theorem f79o_l1_ok (x16 : List Int) (x17 : Int) (x18 : Int) (x20 : List Int) (x21 : Int) (x22 : Int) (k : Nat) (x19 : Int) (x23 : Int) (x24 : List Int) {out : (Int × (List Int))} (h : f79o_l1 x16 x17 x18 x22 k (x19, x23, x24) = some out) : Run Pg 68 (bk1 (sq2 (sq1 (sq2 (sq2 (bk1 (sq1 (sq2 (sq2 (lp1 (bk1 (sq2 (sq1 (sq2 (sq2 c_79))))))))))))))) ⟨[(1, (.d t96 x16)), (5, (.vec 205 t130)), (6, (.d t2 x17)), (7, (.d t130 x18)), (8, (.d t12 x19)), (18, (.d t96 x20)), (19, (.d t2 x21)), (20, (.d t2 x17)), (25, (.d t96 x16)), (26, (.d t2 x22)), (27, (.d t2 x23))], [(205, (.vec 130 t130 x24))]⟩ (f79o_l1_post x16 x17 x18 x20 x21 x22 out) := by
  refine Run.loopN (by kernel_rfl) (fun m s => ∃ x19 x23 x24, s = ⟨[(1, (.d t96 x16)), (5, (.vec 205 t130)), (6, (.d t2 x17)), (7, (.d t130 x18)), (8, (.d t12 x19)), (18, (.d t96 x20)), (19, (.d t2 x21)), (20, (.d t2 x17)), (25, (.d t96 x16)), (26, (.d t2 x22)), (27, (.d t2 x23))], [(205, (.vec 130 t130 x24))]⟩ ∧ f79o_l1 x16 x17 x18 x22 m (x19, x23, x24) = some out) ?_ k ⟨x19, x23, x24,  rfl, h⟩
  rintro m s ⟨x19, x23, x24,  rfl, h⟩
  cases m with
  | zero => cases h
  | succ m =>
  replace h : f79o_l1_b x16 x17 x18 x22 (f79o_l1 x16 x17 x18 x22 m) (x19, x23, x24) = some out := h
  unfold f79o_l1_b at h
  refine Run.regN hX [] 800 [1, 5, 6, 7, 8, 18, 19, 20, 25, 26, 27, 28] [205] ⟨[(1, (.d t96 x16)), (5, (.vec 205 t130)), (6, (.d t2 x17)), (7, (.d t130 x18)), (8, (.d t12 x19)), (18, (.d t96 x20)), (19, (.d t2 x21)), (20, (.d t2 x17)), (25, (.d t96 x16)), (26, (.d t2 x22)), (27, (.d t2 x23)), (28, (.d t4 (decide (x23 < x22))))], [(205, (.vec 130 t130 x24))]⟩ [] (by kernel_rfl) (by kernel_rfl) trivial ?_
  refine Run.seqN (by kernel_rfl) ?_
  refine Run.condN (decide (x23 < x22)) (by kernel_rfl) (fun hb => ?_) (fun hb => ?_)
  · replace h := bif_t h hb
    refine Run.skipN (by kernel_rfl) ?_
    show Run Pg 68 _ _ _
    refine Run.seqN (by kernel_rfl) ?_
    refine Run.blockN 3 (by kernel_rfl) ?_
    obtain ⟨g_0, h⟩ := gd_elim h
    obtain ⟨g_1, h⟩ := gd_elim h
    refine Run.regN hX [] 900 [1, 5, 6, 7, 8, 9, 10, 18, 19, 20, 25, 26, 27] [205] ⟨[(1, (.d t96 x16)), (5, (.vec 205 t130)), (6, (.d t2 x17)), (7, (.d t130 x18)), (8, (.d t12 x19)), (9, (.d t2 x23)), (10, (.d t130 (List.getD x16 (toN x23) (0 : Int)))), (18, (.d t96 x20)), (19, (.d t2 x21)), (20, (.d t2 x17)), (25, (.d t96 x16)), (26, (.d t2 x22)), (27, (.d t2 x23))], [(205, (.vec 130 t130 x24))]⟩ [(0 ≤ x23), (x23 < ((List.length x16 : Nat) : Int))] (by kernel_rfl) (by kernel_rfl) ⟨g_0, g_1, trivial⟩ ?_
    obtain ⟨g_0, h⟩ := gd_elim h
    obtain ⟨g_1, h⟩ := gd_elim h
    obtain ⟨g_2, h⟩ := gd_elim h
    refine Run.regN hX [] 1000 [1, 5, 6, 7, 9, 11, 18, 19, 20, 25, 26, 27] [205] ⟨[(1, (.d t96 x16)), (5, (.vec 205 t130)), (6, (.d t2 x17)), (7, (.d t130 x18)), (9, (.d t2 x23)), (11, (.d t12 (wrapI .u64 ((wrapI .u64 ((wrapI .u64 (List.getD x24 (toN (wrapI .i64 (x17 + x23))) (0 : Int))) + (wrapI .u64 ((wrapI .u64 x18) * (wrapI .u64 (List.getD x16 (toN x23) (0 : Int))))))) + x19)))), (18, (.d t96 x20)), (19, (.d t2 x21)), (20, (.d t2 x17)), (25, (.d t96 x16)), (26, (.d t2 x22)), (27, (.d t2 x23))], [(205, (.vec 130 t130 x24))]⟩ [(0 ≤ (wrapI .i64 (x17 + x23))), ((wrapI .i64 (x17 + x23)) < ((List.length x24 : Nat) : Int)), ((toN (wrapI .i64 (x17 + x23))) < List.length x24)] (by kernel_rfl) (by kernel_rfl) ⟨g_0, g_1, g_2, trivial⟩ ?_
    obtain ⟨g_2, h⟩ := gd_elim h
    obtain ⟨g_3, h⟩ := gd_elim h
    obtain ⟨g_4, h⟩ := gd_elim h
    refine Run.regE hX [] 1100 [1, 5, 6, 7, 8, 18, 19, 20, 25, 26, 27] [205] ⟨[(1, (.d t96 x16)), (5, (.vec 205 t130)), (6, (.d t2 x17)), (7, (.d t130 x18)), (8, (.d t12 (wrapI .u64 (Int.tdiv (wrapI .u64 ((wrapI .u64 ((wrapI .u64 (List.getD x24 (toN (wrapI .i64 (x17 + x23))) (0 : Int))) + (wrapI .u64 ((wrapI .u64 x18) * (wrapI .u64 (List.getD x16 (toN x23) (0 : Int))))))) + x19)) (1000000000 : Int))))), (18, (.d t96 x20)), (19, (.d t2 x21)), (20, (.d t2 x17)), (25, (.d t96 x16)), (26, (.d t2 x22)), (27, (.d t2 x23))], [(205, (.vec 130 t130 (List.set x24 (toN (wrapI .i64 (x17 + x23))) (wrapI .u32 (Int.tmod (wrapI .u64 ((wrapI .u64 ((wrapI .u64 (List.getD x24 (toN (wrapI .i64 (x17 + x23))) (0 : Int))) + (wrapI .u64 ((wrapI .u64 x18) * (wrapI .u64 (List.getD x16 (toN x23) (0 : Int))))))) + x19)) (1000000000 : Int))))))]⟩ [((1000000000 : Int) ≠ 0), ((1000000000 : Int) ≠ 0), (0 ≤ (wrapI .i64 (x17 + x23))), ((wrapI .i64 (x17 + x23)) < ((List.length x24 : Nat) : Int)), ((toN (wrapI .i64 (x17 + x23))) < List.length x24)] (by kernel_rfl) ⟨(by decide), (by decide), g_2, g_3, g_4, trivial⟩ ?_
    show Run Pg 68 _ _ _
    refine Run.regE hX [] 1200 [1, 5, 6, 7, 8, 18, 19, 20, 25, 26, 27] [205] ⟨[(1, (.d t96 x16)), (5, (.vec 205 t130)), (6, (.d t2 x17)), (7, (.d t130 x18)), (8, (.d t12 (wrapI .u64 (Int.tdiv (wrapI .u64 ((wrapI .u64 ((wrapI .u64 (List.getD x24 (toN (wrapI .i64 (x17 + x23))) (0 : Int))) + (wrapI .u64 ((wrapI .u64 x18) * (wrapI .u64 (List.getD x16 (toN x23) (0 : Int))))))) + x19)) (1000000000 : Int))))), (18, (.d t96 x20)), (19, (.d t2 x21)), (20, (.d t2 x17)), (25, (.d t96 x16)), (26, (.d t2 x22)), (27, (.d t2 (wrapI .i64 (x23 + (1 : Int)))))], [(205, (.vec 130 t130 (List.set x24 (toN (wrapI .i64 (x17 + x23))) (wrapI .u32 (Int.tmod (wrapI .u64 ((wrapI .u64 ((wrapI .u64 (List.getD x24 (toN (wrapI .i64 (x17 + x23))) (0 : Int))) + (wrapI .u64 ((wrapI .u64 x18) * (wrapI .u64 (List.getD x16 (toN x23) (0 : Int))))))) + x19)) (1000000000 : Int))))))]⟩ [] (by kernel_rfl) trivial ?_
    exact ⟨m, Nat.lt_succ_self m, _, _, _, rfl, h⟩
  · replace h := bif_f h hb
    refine Run.keep (s' := ⟨[(1, (.d t96 x16)), (5, (.vec 205 t130)), (6, (.d t2 x17)), (8, (.d t12 x19)), (18, (.d t96 x20)), (19, (.d t2 x21)), (20, (.d t2 x17))], [(205, (.vec 130 t130 x24))]⟩) [1, 5, 6, 8, 18, 19, 20] [205] (by kernel_rfl) ?_
    refine Run.exitN 2 (by kernel_rfl) ?_
    replace h := Option.some.inj h
    subst h
    exact ⟨rfl, by kernel_rfl⟩

def f79o_l0_post (x1 : List Int) (x2 : List Int) (x3 : Int) : ((List Int)) → Ex → St → Prop
  | o, x, s => x = .out 0 ∧ s = ⟨[(5, (.vec 205 t130))], [(205, (.vec 130 t130 o))]⟩

def f79o_l0_b (x1 : List Int) (x2 : List Int) (x3 : Int) (again : Int × (List Int) → Option ((List Int))) : Int × (List Int) → Option ((List Int))
  | (x4, x5) =>
    (bif (decide (x4 < x3)) then
      gd (0 ≤ x4) <|
      gd (x4 < ((List.length x2 : Nat) : Int)) <|
      ((f79o_l1 x1 x4 (List.getD x2 (toN x4) (0 : Int)) (ofN (List.length x1)) (2 + List.length x1 + List.length x2 + List.length x5) ((0 : Int), (0 : Int), x5)).bind fun o25 =>
        gd (0 ≤ (wrapI .i64 (x4 + (ofN (List.length x1))))) <|
        gd ((wrapI .i64 (x4 + (ofN (List.length x1)))) < ((List.length o25.2 : Nat) : Int)) <|
        gd ((toN (wrapI .i64 (x4 + (ofN (List.length x1))))) < List.length o25.2) <|
        again ((wrapI .i64 (x4 + (1 : Int))), (List.set o25.2 (toN (wrapI .i64 (x4 + (ofN (List.length x1))))) (wrapI .u32 o25.1))))
    else
      some x5)

def f79o_l0 (x1 : List Int) (x2 : List Int) (x3 : Int) : Nat → Int × (List Int) → Option ((List Int)) := loopF (f79o_l0_b x1 x2 x3)

theorem f79o_l0_ok (x1 : List Int) (x2 : List Int) (x3 : Int) (k : Nat) (x4 : Int) (x5 : List Int) {out : ((List Int))} (h : f79o_l0 x1 x2 x3 k (x4, x5) = some out) : Run Pg 68 (bk1 (sq2 (sq1 (sq2 (sq2 c_79))))) ⟨[(1, (.d t96 x1)), (5, (.vec 205 t130)), (18, (.d t96 x2)), (19, (.d t2 x3)), (20, (.d t2 x4))], [(205, (.vec 130 t130 x5))]⟩ (f79o_l0_post x1 x2 x3 out) := by
  refine Run.loopN (by kernel_rfl) (fun m s => ∃ x4 x5, s = ⟨[(1, (.d t96 x1)), (5, (.vec 205 t130)), (18, (.d t96 x2)), (19, (.d t2 x3)), (20, (.d t2 x4))], [(205, (.vec 130 t130 x5))]⟩ ∧ f79o_l0 x1 x2 x3 m (x4, x5) = some out) ?_ k ⟨x4, x5,  rfl, h⟩
  rintro m s ⟨x4, x5,  rfl, h⟩
  cases m with
  | zero => cases h
  | succ m =>
  replace h : f79o_l0_b x1 x2 x3 (f79o_l0 x1 x2 x3 m) (x4, x5) = some out := h
  unfold f79o_l0_b at h
  refine Run.regN hX [] 400 [1, 5, 18, 19, 20, 21] [205] ⟨[(1, (.d t96 x1)), (5, (.vec 205 t130)), (18, (.d t96 x2)), (19, (.d t2 x3)), (20, (.d t2 x4)), (21, (.d t4 (decide (x4 < x3))))], [(205, (.vec 130 t130 x5))]⟩ [] (by kernel_rfl) (by kernel_rfl) trivial ?_
  refine Run.seqN (by kernel_rfl) ?_
  refine Run.condN (decide (x4 < x3)) (by kernel_rfl) (fun hb => ?_) (fun hb => ?_)
  · replace h := bif_t h hb
    refine Run.skipN (by kernel_rfl) ?_
    show Run Pg 68 _ _ _
    refine Run.seqN (by kernel_rfl) ?_
    refine Run.blockN 1 (by kernel_rfl) ?_
    obtain ⟨g_0, h⟩ := gd_elim h
    obtain ⟨g_1, h⟩ := gd_elim h
    refine Run.regN hX [] 500 [1, 5, 6, 7, 18, 19, 20] [205] ⟨[(1, (.d t96 x1)), (5, (.vec 205 t130)), (6, (.d t2 x4)), (7, (.d t130 (List.getD x2 (toN x4) (0 : Int)))), (18, (.d t96 x2)), (19, (.d t2 x3)), (20, (.d t2 x4))], [(205, (.vec 130 t130 x5))]⟩ [(0 ≤ x4), (x4 < ((List.length x2 : Nat) : Int))] (by kernel_rfl) (by kernel_rfl) ⟨g_0, g_1, trivial⟩ ?_
    refine Run.regN hX [] 600 [1, 5, 6, 7, 8, 18, 19, 20] [205] ⟨[(1, (.d t96 x1)), (5, (.vec 205 t130)), (6, (.d t2 x4)), (7, (.d t130 (List.getD x2 (toN x4) (0 : Int)))), (8, (.d t12 (0 : Int))), (18, (.d t96 x2)), (19, (.d t2 x3)), (20, (.d t2 x4))], [(205, (.vec 130 t130 x5))]⟩ [] (by kernel_rfl) (by kernel_rfl) trivial ?_
    refine Run.seqN (by kernel_rfl) ?_
    refine Run.regN hX [] 700 [1, 5, 6, 7, 8, 18, 19, 20, 25, 26, 27] [205] ⟨[(1, (.d t96 x1)), (5, (.vec 205 t130)), (6, (.d t2 x4)), (7, (.d t130 (List.getD x2 (toN x4) (0 : Int)))), (8, (.d t12 (0 : Int))), (18, (.d t96 x2)), (19, (.d t2 x3)), (20, (.d t2 x4)), (25, (.d t96 x1)), (26, (.d t2 (ofN (List.length x1)))), (27, (.d t2 (0 : Int)))], [(205, (.vec 130 t130 x5))]⟩ [] (by kernel_rfl) (by kernel_rfl) trivial ?_
    refine Run.blockN 2 (by kernel_rfl) ?_
    obtain ⟨o25, h_o25, h⟩ := bnd_elim h
    refine Run.mono (f79o_l1_ok x1 x4 (List.getD x2 (toN x4) (0 : Int)) x2 x3 (ofN (List.length x1)) _ (0 : Int) (0 : Int) x5 h_o25) ?_
    rintro x s ⟨hx, hs⟩
    subst hx
    subst hs
    show Run Pg 68 _ _ _
    obtain ⟨g_0, h⟩ := gd_elim h
    obtain ⟨g_1, h⟩ := gd_elim h
    obtain ⟨g_2, h⟩ := gd_elim h
    refine Run.regE hX [] 1300 [1, 5, 18, 19, 20] [205] ⟨[(1, (.d t96 x1)), (5, (.vec 205 t130)), (18, (.d t96 x2)), (19, (.d t2 x3)), (20, (.d t2 x4))], [(205, (.vec 130 t130 (List.set o25.2 (toN (wrapI .i64 (x4 + (ofN (List.length x1))))) (wrapI .u32 o25.1))))]⟩ [(0 ≤ (wrapI .i64 (x4 + (ofN (List.length x1))))), ((wrapI .i64 (x4 + (ofN (List.length x1)))) < ((List.length o25.2 : Nat) : Int)), ((toN (wrapI .i64 (x4 + (ofN (List.length x1))))) < List.length o25.2)] (by kernel_rfl) ⟨g_0, g_1, g_2, trivial⟩ ?_
    show Run Pg 68 _ _ _
    refine Run.regE hX [] 1400 [1, 5, 18, 19, 20] [205] ⟨[(1, (.d t96 x1)), (5, (.vec 205 t130)), (18, (.d t96 x2)), (19, (.d t2 x3)), (20, (.d t2 (wrapI .i64 (x4 + (1 : Int)))))], [(205, (.vec 130 t130 (List.set o25.2 (toN (wrapI .i64 (x4 + (ofN (List.length x1))))) (wrapI .u32 o25.1))))]⟩ [] (by kernel_rfl) trivial ?_
    exact ⟨m, Nat.lt_succ_self m, _, _, rfl, h⟩
  · replace h := bif_f h hb
    refine Run.keep (s' := ⟨[(5, (.vec 205 t130))], [(205, (.vec 130 t130 x5))]⟩) [5] [205] (by kernel_rfl) ?_
    refine Run.exitN 0 (by kernel_rfl) ?_
    replace h := Option.some.inj h
    subst h
    exact ⟨rfl, by kernel_rfl⟩

def F79o (a0 : List Int) (a1 : List Int) : Option ((List Int)) :=
  gd (0 ≤ (wrapI .i64 ((ofN (List.length a0)) + (ofN (List.length a1))))) <|
  gd ((wrapI .i64 ((ofN (List.length a0)) + (ofN (List.length a1)))) ≤ (wrapI .i64 ((ofN (List.length a0)) + (ofN (List.length a1))))) <|
  gd ((wrapI .i64 ((ofN (List.length a0)) + (ofN (List.length a1)))) ≤ 1073741824) <|
  ((f79o_l0 a1 a0 (ofN (List.length a0)) (2 + List.length a1 + List.length a0 + List.length (List.replicate (toN (wrapI .i64 ((ofN (List.length a0)) + (ofN (List.length a1))))) (0 : Int))) ((0 : Int), (List.replicate (toN (wrapI .i64 ((ofN (List.length a0)) + (ofN (List.length a1))))) (0 : Int)))).bind fun o26 =>
    some o26)

theorem c79o {a0 : List Int} {a1 : List Int} {r : (List Int)} (h : F79o a0 a1 = some r) : CallOwn Pg 79 [(.d t96 a0), (.d t96 a1)] 130 t130 r := by
  refine callOwnN hX c_79 68 [.tmp 4] Go.Proofs.Try.func79 (by kernel_rfl) (by kernel_rfl) (by kernel_rfl) (Nat.le_of_ble_eq_true rfl) ?_
  show Run Pg 68 c_79 ⟨[(0, (.d t96 a0)), (1, (.d t96 a1))], []⟩ (fin79o r)
  unfold F79o at h
  refine Run.regN hX [] 100 [0, 1] [] ⟨[(0, (.d t96 a0)), (1, (.d t96 a1))], []⟩ [] (by kernel_rfl) (by kernel_rfl) trivial ?_
  obtain ⟨g_0, h⟩ := gd_elim h
  obtain ⟨g_1, h⟩ := gd_elim h
  obtain ⟨g_2, h⟩ := gd_elim h
  refine Run.regN hX [] 200 [0, 1, 5] [205] ⟨[(0, (.d t96 a0)), (1, (.d t96 a1)), (5, (.vec 205 t130))], [(205, (.vec 130 t130 (List.replicate (toN (wrapI .i64 ((ofN (List.length a0)) + (ofN (List.length a1))))) (0 : Int))))]⟩ [(0 ≤ (wrapI .i64 ((ofN (List.length a0)) + (ofN (List.length a1))))), ((wrapI .i64 ((ofN (List.length a0)) + (ofN (List.length a1)))) ≤ (wrapI .i64 ((ofN (List.length a0)) + (ofN (List.length a1))))), ((wrapI .i64 ((ofN (List.length a0)) + (ofN (List.length a1)))) ≤ 1073741824)] (by kernel_rfl) (by kernel_rfl) ⟨g_0, g_1, g_2, trivial⟩ ?_
  refine Run.seqN (by kernel_rfl) ?_
  refine Run.regN hX [] 300 [1, 5, 18, 19, 20] [205] ⟨[(1, (.d t96 a1)), (5, (.vec 205 t130)), (18, (.d t96 a0)), (19, (.d t2 (ofN (List.length a0)))), (20, (.d t2 (0 : Int)))], [(205, (.vec 130 t130 (List.replicate (toN (wrapI .i64 ((ofN (List.length a0)) + (ofN (List.length a1))))) (0 : Int))))]⟩ [] (by kernel_rfl) (by kernel_rfl) trivial ?_
  refine Run.blockN 0 (by kernel_rfl) ?_
  obtain ⟨o26, h_o26, h⟩ := bnd_elim h
  refine Run.mono (f79o_l0_ok a1 a0 (ofN (List.length a0)) _ (0 : Int) (List.replicate (toN (wrapI .i64 ((ofN (List.length a0)) + (ofN (List.length a1))))) (0 : Int)) h_o26) ?_
  rintro x s ⟨hx, hs⟩
  subst hx
  subst hs
  show Run Pg 68 _ _ _
  refine Run.regN hX [] 1500 [4] [205] ⟨[(4, (.vec 205 t130))], [(205, (.vec 130 t130 o26))]⟩ [] (by kernel_rfl) (by kernel_rfl) trivial ?_
  refine Run.retN (by kernel_rfl) ?_
  replace h := Option.some.inj h
  subst h
  exact ⟨4, 205, rfl, by kernel_rfl⟩


end Go.Sw
