/- Each function of the code computes the Lean function of the same number wherever that has a value; no other conditions. -/
import Derived.Test.YtcmbahhinnojaaaGreatSwb
import Derived.Test.YtcmbahhinnojaaaGreatProg
namespace Go.Sw
open Go Go.Sw
set_option linter.unusedSimpArgs false
set_option linter.unusedVariables false

@[reducible] def bx (t : T) (x : t.D) : E := .box (.vcons (.d t x) .vnil)
abbrev IntL := Bool × (List Int)
abbrev RatL := IntL × IntL

abbrev t2 : T := (.int .i64)
abbrev t4 : T := .bool
abbrev t5 : T := (.int .u8)
abbrev t7 : T := (.st (.cons t2 (.cons t2 (.cons t4 (.one t5)))))
abbrev t9 : T := .str
abbrev t12 : T := (.int .u64)
abbrev t13 : T := (.st (.cons t9 (.one t12)))
abbrev t21 : T := (.int .i32)
abbrev t33 : T := (.st (.cons t2 (.cons t2 (.cons t2 (.cons t2 (.one t2))))))
abbrev t22 : T := (.sl t33)
abbrev t23 : T := (.st (.cons t2 (.cons t2 (.cons t2 (.cons t2 (.cons t2 (.cons t2 (.cons t22 (.one t2)))))))))
abbrev t25 : T := (.st (.cons t2 (.one t2)))
abbrev t27 : T := (.st (.cons t25 (.one t25)))
abbrev t36 : T := (.st (.cons t2 (.cons t2 (.one t2))))
abbrev t38 : T := (.st (.cons t36 (.one t36)))
abbrev t68 : T := (.st (.cons t2 (.cons t36 (.cons t25 (.one t2)))))
abbrev t40 : T := (.sl t68)
abbrev t47 : T := (.sl t25)
abbrev t53 : T := (.sl t2)
abbrev t58 : T := (.st (.cons t36 (.one t40)))
abbrev t127 : T := (.int .u32)
abbrev t83 : T := (.sl t127)
abbrev t84 : T := (.st (.cons t4 (.one t83)))
abbrev t86 : T := (.st (.cons t84 (.one t84)))
abbrev t97 : T := (.sl t4)
abbrev t101 : T := (.st (.cons t86 (.one t86)))
abbrev t104 : T := (.sl t101)
abbrev t116 : T := (.sl t86)
def tyL : List (Option T) := [none, none, some t2, some t2, some t4, some t5, some t5, some t7, some t7, some t9, some t9, some t9, some t12, some t13, some t13, none, none, none, none, none, none, some t21, some t22, some t23, some t23, some t25, some t25, some t27, some t25, none, none, none, none, some t33, some t33, none, some t36, some t36, some t38, none, some t40, some t2, none, none, none, none, none, some t47, none, none, none, none, none, some t53, none, none, none, none, some t58, some t58, none, none, none, none, none, some t58, some t58, none, some t68, some t68, none, none, none, none, none, some t25, some t25, none, none, none, none, none, none, some t83, some t84, some t84, some t86, some t86, none, none, none, none, none, none, none, none, some t53, some t97, none, none, none, some t101, some t101, none, some t104, none, none, none, none, none, none, none, none, none, none, none, some t116, none, none, none, none, some t12, none, none, none, none, none, some t127, none, none, none, none, none, none, none, none, none, none, none, none, none, none, none, none, none, none, none, none, none, none, some t5, some t5, none, none, some t21, some t21, none, none, none]
def scL : List Bool := [false, true, false, false, false, false, false, false, false, false, false, false, false, false, false, true, true, true, false, false, false, false, false, false, false, false, false, false, false, true, true, true, true, false, false, true, false, false, false, true, false, false, false, true, true, true, true, false, false, true, true, true, true, false, true, false, true, true, false, false, true, true, true, true, true, false, false, true, false, false, true, true, true, true, true, false, false, true, true, true, true, true, true, false, false, false, false, false, true, true, true, true, true, true, true, true, false, false, true, true, true, false, false, true, false, true, true, true, true, true, true, true, true, true, true, true, false, true, true, true, true, false, true, true, true, true, true, false, true, false, true, false, true, false, true, false, true, true, true, true, true, true, true, true, false, false, false, false, false, true, false, false, true, true, false, false, false, false, false]
def elL : List Nat := [0, 0, 0, 0, 0, 0, 0, 0, 0, 0, 0, 0, 0, 0, 0, 0, 0, 0, 0, 0, 0, 0, 34, 0, 0, 0, 0, 0, 0, 0, 0, 0, 0, 0, 0, 0, 0, 0, 0, 0, 69, 0, 0, 0, 0, 0, 0, 26, 0, 0, 0, 0, 0, 2, 0, 0, 0, 0, 0, 0, 0, 0, 0, 0, 0, 0, 0, 0, 0, 0, 0, 0, 0, 0, 0, 0, 0, 0, 0, 0, 0, 0, 0, 127, 0, 0, 0, 0, 0, 0, 0, 0, 0, 0, 0, 0, 3, 4, 0, 0, 0, 0, 0, 0, 102, 0, 0, 0, 0, 0, 0, 0, 0, 0, 0, 0, 87, 0, 0, 0, 0, 0, 0, 0, 0, 0, 0, 0, 0, 0, 0, 0, 0, 0, 0, 0, 0, 0, 0, 0, 0, 0, 0, 0, 0, 0, 0, 0, 0, 0, 0, 0, 0, 0, 0, 0, 0, 0, 0]
def arL : List Bool := [false, false, false, false, false, false, false, false, false, false, false, false, false, false, false, false, false, false, false, false, false, false, false, false, false, false, false, true, true, false, false, false, false, false, false, false, false, false, true, false, false, false, false, false, false, false, false, false, false, false, false, false, false, false, false, false, false, false, false, false, false, false, false, false, false, false, false, false, false, false, false, false, false, false, false, false, false, false, false, false, false, false, false, false, false, false, false, false, false, false, false, false, false, false, false, false, false, false, false, false, false, false, false, false, false, false, false, false, false, false, false, false, false, false, false, false, false, false, false, false, false, false, false, false, false, false, false, false, false, false, false, false, false, false, false, false, false, false, false, false, false, false, false, false, false, false, true, false, false, false, false, false, false, false, false, false, false, false, false]
def fnL : List Bool := [false, false, true, true, true, true, true, true, true, true, true, true, true, true, true, true, true, true, true, true, true, true, true, true, true, true, true, true, true, true, true, true, true, true, true, true, true, true, true, true, true, true, true, true, true, true, true, true, true, true, true, true, true, true, true, true, true, true, true, true, true, true, true, true, true, true, true, true, true, true, true, true, true, true, true, true, true, true, true, true, true, true, true, true, true, true, true, true, true, true, true, true, true, true, true, true, true, true, true, true, true, true, true, true, true, true, true, true, true, true, true, true, true, true, true, true, true, true, true, true, true, true, true, true, true, true, true, true, true, true, true, true, true, true, true, true, true, true, true, true, true, true, true, true, true, false, false, false, false, false, false, false, false, false, false, false, false, false, false, false]
def eqL : List Bool := [false, false, false, false, false, false, false, false, false, false, false, false, false, false, false, false, false, false, false, false, false, false, false, false, false, false, true, false, false, false, false, false, false, false, true, false, false, true, false, false, false, false, false, false, false, false, false, false, false, false, false, false, false, false, false, false, false, false, false, false, false, false, false, false, false, false, false, false, false, true, false, false, false, false, false, false, false, false, false, false, false, false, false, false, false, false, false, false, false, false, false, false, false, false, false, false, false, false, false, false, false, false, false, false, false, false, false, false, false, false, false, false, false, false, false, false, false, false, false, false, false, false, false, false, false, false, false, false, false, false, false, false, false, false, false, false, false, false, false, false, false, false, false, false, false, false, false, false, false, false, false, false, false, false, false, false, false, false, false]
def X0 : Ctx := ⟨fun n => tyL.getD n none, fun n => scL.getD n false, fun n => elL.getD n 0, fun n => arL.getD n false, fun n => fnL.getD n false, fun n => eqL.getD n false⟩
noncomputable abbrev Pg : Program := Go.Proofs.Tryz.prog
theorem hX : TyOk Pg X0 := by
 refine TyOk.of 160 (by kernel_rfl) (fun i hi => ⟨?_, ?_, ?_, ?_⟩) (by kernel_rfl)
 ·exact getD_out _ () (by have : fnL.length = 160 := rfl; omega)
 ·exact getD_out _ () (by have : tyL.length = 159 := rfl; omega)
 ·exact getD_out _ () (by have : scL.length = 159 := rfl; omega)
 ·exact getD_out _ () (by have : eqL.length = 159 := rfl; omega)

section
variable {n : Nat} {c : Code} {s : St} {K : Ex → St → Prop}
theorem qN (hs : List (Nat × Hint)) (base : Nat) (s' : St) {cs : List Prop} (hc : AllTrue cs) (hk : Run Pg n (sq2 c) s' K) (hq : isSeq c = true := by kernel_rfl) (hev : evAt Pg X0 n (sq1 c) hs base (s'.1.map (·.1)) (s'.2.map (·.1)) s = some (s', cs) := by kernel_rfl) : Run Pg n c s K := Run.rN hX hs base _ _ s' hc hk hq hev
theorem qE (hs : List (Nat × Hint)) (base : Nat) (s' : St) {cs : List Prop} (hc : AllTrue cs) (hk : K .nrm s') (hev : evAt Pg X0 n c hs base (s'.1.map (·.1)) (s'.2.map (·.1)) s = some (s', cs) := by kernel_rfl) : Run Pg n c s K := Run.rE hX hs base _ _ s' hc hk hev
theorem qK (s' : St) (hr : Run Pg n c s' K) (h : s.keep (s'.1.map (·.1)) (s'.2.map (·.1)) = some s' := by kernel_rfl) : Run Pg n c s K := Run.kp _ _ hr h
end
theorem qC {f : FuncId} {fn : Func} (c : Code) (n : Nat) (rv : List ResultVar) (tys : List TypeId) (hf : Pg.funcs[f]? = some fn) {args : List V} {r : V} (h : Run Pg n c (St.enter args) (endK X0 rv tys r)) (hb : fn.body = some c := by kernel_rfl) (hn : fn.ntmps = n := by kernel_rfl) (hrv : fn.results.toList = rv := by kernel_rfl) (hl : args.length.ble n = true := by exact rfl) (hpa : args.all V.pure = true := by exact rfl) (hp : r.pure = true := by exact rfl) : CallPure Pg f args r := callPureN hX c n rv tys hf hb hn hrv (Nat.le_of_ble_eq_true hl) hpa hp h
theorem qR {s : St} {rs : List ResultVar} {tys : List TypeId} {r : V} (l : List V) (h1 : evRes X0 s rs tys = some l := by kernel_rfl) (h2 : resV l = some r := by kernel_rfl) : ∃ l, evRes X0 s rs tys = some l ∧ resV l = some r := ⟨l, h1, h2⟩

/-! ## f15 -/

noncomputable def c_15 : Code := body0 Go.Proofs.Tryz.f15

def fin15 (r : (Int × Int × Int × Int × Int × Int × (List (Int × Int × Int × Int × Int)) × Int)) : Ex → St → Prop := endK X0 [.cell 0 24] [24] (.d t23 r)

def F15  : Option ((Int × Int × Int × Int × Int × Int × (List (Int × Int × Int × Int × Int)) × Int)) :=
 some ((0 : Int), (0 : Int), (40000 : Int), (30000 : Int), (5000 : Int), (0 : Int), ([((10000 : Int), (0 : Int), (20000 : Int), (5000 : Int), (8000 : Int))] : List (Int × Int × Int × Int × Int)), (20000 : Int))

theorem c15  {r : (Int × Int × Int × Int × Int × Int × (List (Int × Int × Int × Int × Int)) × Int)} (h : F15  = some r) : CallPure Pg 15 [] (.d t23 r) := by
 refine qC c_15 4 [.cell 0 24] [24] Go.Proofs.Tryz.func15 ?_
 show Run Pg 4 c_15 ⟨[], []⟩ (fin15 r)
 unfold F15 at h
 refine qN [] 100 ⟨[(0, .ptr 100 0)], [(100, bx t23 ((0 : Int), (0 : Int), (0 : Int), (0 : Int), (0 : Int), (0 : Int), ([] : List (Int × Int × Int × Int × Int)), (0 : Int)))]⟩ aN ?_
 refine qN [] 200 ⟨[(0, .ptr 100 0)], [(100, bx t23 ((0 : Int), (0 : Int), (40000 : Int), (30000 : Int), (5000 : Int), (0 : Int), ([((10000 : Int), (0 : Int), (20000 : Int), (5000 : Int), (8000 : Int))] : List (Int × Int × Int × Int × Int)), (20000 : Int)))]⟩ aN ?_
 refine Run.rt ?_
 obtain rfl := sI h
 exact qR [(.d t23 ((0 : Int), (0 : Int), (40000 : Int), (30000 : Int), (5000 : Int), (0 : Int), ([((10000 : Int), (0 : Int), (20000 : Int), (5000 : Int), (8000 : Int))] : List (Int × Int × Int × Int × Int)), (20000 : Int)))]

/-! ## f7 -/

noncomputable def c_7 : Code := body0 Go.Proofs.Tryz.f7

def fin7 (r : (List (Int × Int × Int × Int × Int))) : Ex → St → Prop := endK X0 [.tmp 6] [22] (.d t22 r)

def f7_c1_post (x16 : Int) (x17 : Int) (x18 : List (Int × Int × Int × Int × Int)) (x19 : Int) (x20 : Int) (x21 : Bool) (x22 : Int × Int × Int × Int × Int) (x23 : List (Int × Int × Int × Int × Int)) : ((List (Int × Int × Int × Int × Int))) → Ex → St → Prop
 | o, x, s => x = .nrm ∧ s = ⟨[(1, .d t2 x16), (2, .d t2 x17), (7, .vec 90007 t33), (11, .d t22 x18), (12, .d t2 x19), (13, .d t2 x20)], [(90007, .vec 34 t33 o)]⟩

def f7_c1 (x17 : Int) (x21 : Bool) (x22 : Int × Int × Int × Int × Int) (x23 : List (Int × Int × Int × Int × Int)) : Option ((List (Int × Int × Int × Int × Int))) :=
 (bif x21 then
 gd (List.length (x23 ++ ([((wrapI .i64 (x22.1 - x17)), (wrapI .i64 (x22.2.1 - x17)), (wrapI .i64 (x22.2.2.1 + x17)), (wrapI .i64 (x22.2.2.2.1 + x17)), x22.2.2.2.2)] : List (Int × Int × Int × Int × Int))) ≤ 1073741824) <|
 some (x23 ++ ([((wrapI .i64 (x22.1 - x17)), (wrapI .i64 (x22.2.1 - x17)), (wrapI .i64 (x22.2.2.1 + x17)), (wrapI .i64 (x22.2.2.2.1 + x17)), x22.2.2.2.2)] : List (Int × Int × Int × Int × Int)))
 else
 some x23)

theorem f7_c1_ok (x16 : Int) (x17 : Int) (x18 : List (Int × Int × Int × Int × Int)) (x19 : Int) (x20 : Int) (x21 : Bool) (x22 : Int × Int × Int × Int × Int) (x23 : List (Int × Int × Int × Int × Int)) {out : ((List (Int × Int × Int × Int × Int)))} (h : f7_c1 x17 x21 x22 x23 = some out) : Run Pg 46 (sq2 (sq2 (bk1 (sq1 (sq2 (sq2 (lp1 (bk1 (sq2 (sq1 (sq2 (sq2 c_7)))))))))))) ⟨[(1, .d t2 x16), (2, .d t2 x17), (7, .vec 90007 t33), (9, .ptr 502 0), (11, .d t22 x18), (12, .d t2 x19), (13, .d t2 x20), (21, .d t4 x21)], [(502, bx t33 x22), (90007, .vec 34 t33 x23)]⟩ (f7_c1_post x16 x17 x18 x19 x20 x21 x22 x23 out) := by
 unfold f7_c1 at h
 refine Run.cd x21 (fun hb => ?_) (fun hb => ?_)
 ·replace h := bif_t h hb
  obtain ⟨g_0, h⟩ := gd_elim h
  refine qE [] 700 ⟨[(1, .d t2 x16), (2, .d t2 x17), (7, .vec 90007 t33), (11, .d t22 x18), (12, .d t2 x19), (13, .d t2 x20)], [(90007, .vec 34 t33 (x23 ++ ([((wrapI .i64 (x22.1 - x17)), (wrapI .i64 (x22.2.1 - x17)), (wrapI .i64 (x22.2.2.1 + x17)), (wrapI .i64 (x22.2.2.2.1 + x17)), x22.2.2.2.2)] : List (Int × Int × Int × Int × Int))))]⟩ (aC g_0 aN) ?_
  obtain rfl := sI h
  exact ⟨rfl, by kernel_rfl⟩
 ·replace h := bif_f h hb
  refine qK ⟨[(1, .d t2 x16), (2, .d t2 x17), (7, .vec 90007 t33), (11, .d t22 x18), (12, .d t2 x19), (13, .d t2 x20)], [(90007, .vec 34 t33 x23)]⟩ ?_
  refine Run.sk ?_
  obtain rfl := sI h
  exact ⟨rfl, by kernel_rfl⟩

def f7_l0_post (x1 : Int) (x2 : Int) (x3 : List (Int × Int × Int × Int × Int)) (x4 : Int) : ((List (Int × Int × Int × Int × Int))) → Ex → St → Prop
 | o, x, s => x = .out 0 ∧ s = ⟨[(7, .vec 90007 t33)], [(90007, .vec 34 t33 o)]⟩

def f7_l0_b (x1 : Int) (x2 : Int) (x3 : List (Int × Int × Int × Int × Int)) (x4 : Int) (again : Int × (List (Int × Int × Int × Int × Int)) → Option ((List (Int × Int × Int × Int × Int)))) : Int × (List (Int × Int × Int × Int × Int)) → Option ((List (Int × Int × Int × Int × Int)))
 | (x5, x6) =>
 (bif (decide (x5 < x4)) then
 gd (0 ≤ x5) <|
 gd (x5 < ((List.length x3 : Nat) : Int)) <|
 ((f7_c1 x2 (decide (x1 < (wrapI .i64 ((List.getD x3 (toN x5) ((0 : Int), (0 : Int), (0 : Int), (0 : Int), (0 : Int))).2.2.2.2 + (1000 : Int))))) (List.getD x3 (toN x5) ((0 : Int), (0 : Int), (0 : Int), (0 : Int), (0 : Int))) x6).bind fun o24 =>
 again ((wrapI .i64 (x5 + (1 : Int))), o24))
 else
 some x6)

def f7_l0 (x1 : Int) (x2 : Int) (x3 : List (Int × Int × Int × Int × Int)) (x4 : Int) : Nat → Int × (List (Int × Int × Int × Int × Int)) → Option ((List (Int × Int × Int × Int × Int))) := loopF (f7_l0_b x1 x2 x3 x4)

theorem f7_l0_ok (x1 : Int) (x2 : Int) (x3 : List (Int × Int × Int × Int × Int)) (x4 : Int) (k : Nat) (x5 : Int) (x6 : List (Int × Int × Int × Int × Int)) {out : ((List (Int × Int × Int × Int × Int)))} (h : f7_l0 x1 x2 x3 x4 k (x5, x6) = some out) : Run Pg 46 (bk1 (sq2 (sq1 (sq2 (sq2 c_7))))) ⟨[(1, .d t2 x1), (2, .d t2 x2), (7, .vec 90007 t33), (11, .d t22 x3), (12, .d t2 x4), (13, .d t2 x5)], [(90007, .vec 34 t33 x6)]⟩ (f7_l0_post x1 x2 x3 x4 out) := by
 refine Run.loopN (by kernel_rfl) (fun m s => ∃ x5 x6, s = ⟨[(1, .d t2 x1), (2, .d t2 x2), (7, .vec 90007 t33), (11, .d t22 x3), (12, .d t2 x4), (13, .d t2 x5)], [(90007, .vec 34 t33 x6)]⟩ ∧ f7_l0 x1 x2 x3 x4 m (x5, x6) = some out) ?_ k ⟨x5, x6,  rfl, h⟩
 rintro m s ⟨x5, x6,  rfl, h⟩
 cases m with
 | zero => cases h
 | succ m =>
 replace h : f7_l0_b x1 x2 x3 x4 (f7_l0 x1 x2 x3 x4 m) (x5, x6) = some out := h
 unfold f7_l0_b at h
 refine qN [] 400 ⟨[(1, .d t2 x1), (2, .d t2 x2), (7, .vec 90007 t33), (11, .d t22 x3), (12, .d t2 x4), (13, .d t2 x5), (14, .d t4 (decide (x5 < x4)))], [(90007, .vec 34 t33 x6)]⟩ aN ?_
 refine Run.sq ?_
 refine Run.cd (decide (x5 < x4)) (fun hb => ?_) (fun hb => ?_)
 ·replace h := bif_t h hb
  refine Run.sk ?_
  show Run Pg 46 _ _ _
  refine Run.sq ?_
  refine Run.bl 1 ?_
  obtain ⟨g_0, h⟩ := gd_elim h
  obtain ⟨g_1, h⟩ := gd_elim h
  refine qN [] 500 ⟨[(1, .d t2 x1), (2, .d t2 x2), (7, .vec 90007 t33), (9, .ptr 502 0), (11, .d t22 x3), (12, .d t2 x4), (13, .d t2 x5)], [(502, bx t33 (List.getD x3 (toN x5) ((0 : Int), (0 : Int), (0 : Int), (0 : Int), (0 : Int)))), (90007, .vec 34 t33 x6)]⟩ (aC g_0 (aC g_1 aN)) ?_
  refine qN [] 600 ⟨[(1, .d t2 x1), (2, .d t2 x2), (7, .vec 90007 t33), (9, .ptr 502 0), (11, .d t22 x3), (12, .d t2 x4), (13, .d t2 x5), (21, .d t4 (decide (x1 < (wrapI .i64 ((List.getD x3 (toN x5) ((0 : Int), (0 : Int), (0 : Int), (0 : Int), (0 : Int))).2.2.2.2 + (1000 : Int))))))], [(502, bx t33 (List.getD x3 (toN x5) ((0 : Int), (0 : Int), (0 : Int), (0 : Int), (0 : Int)))), (90007, .vec 34 t33 x6)]⟩ aN ?_
  obtain ⟨o24, h_o24, h⟩ := bnd_elim h
  refine Run.mono (f7_c1_ok x1 x2 x3 x4 x5 (decide (x1 < (wrapI .i64 ((List.getD x3 (toN x5) ((0 : Int), (0 : Int), (0 : Int), (0 : Int), (0 : Int))).2.2.2.2 + (1000 : Int))))) (List.getD x3 (toN x5) ((0 : Int), (0 : Int), (0 : Int), (0 : Int), (0 : Int))) x6 h_o24) ?_
  rintro _ _ ⟨rfl, rfl⟩
  show Run Pg 46 _ _ _
  refine qE [] 800 ⟨[(1, .d t2 x1), (2, .d t2 x2), (7, .vec 90007 t33), (11, .d t22 x3), (12, .d t2 x4), (13, .d t2 (wrapI .i64 (x5 + (1 : Int))))], [(90007, .vec 34 t33 o24)]⟩ aN ?_
  exact ⟨m, Nat.lt_succ_self m, _, _, rfl, h⟩
 ·replace h := bif_f h hb
  refine qK ⟨[(7, .vec 90007 t33)], [(90007, .vec 34 t33 x6)]⟩ ?_
  refine Run.ex 0 ?_
  obtain rfl := sI h
  exact ⟨rfl, by kernel_rfl⟩

def F7 (a0 : Int × Int × Int × Int × Int × Int × (List (Int × Int × Int × Int × Int)) × Int) (a1 : Int) (a2 : Int) : Option ((List (Int × Int × Int × Int × Int))) :=
 ((f7_l0 a1 a2 a0.2.2.2.2.2.2.1 (ofN (List.length a0.2.2.2.2.2.2.1)) (2 + List.length a0.2.2.2.2.2.2.1 + List.length ([] : List (Int × Int × Int × Int × Int))) ((0 : Int), ([] : List (Int × Int × Int × Int × Int)))).bind fun o25 =>
 some o25)

theorem c7 {a0 : Int × Int × Int × Int × Int × Int × (List (Int × Int × Int × Int × Int)) × Int} {a1 : Int} {a2 : Int} {r : (List (Int × Int × Int × Int × Int))} (h : F7 a0 a1 a2 = some r) : CallPure Pg 7 [(.d t23 a0), (.d t2 a1), (.d t2 a2)] (.d t22 r) := by
 refine qC c_7 46 [.tmp 6] [22] Go.Proofs.Tryz.func7 ?_
 show Run Pg 46 c_7 ⟨[(0, .d t23 a0), (1, .d t2 a1), (2, .d t2 a2)], []⟩ (fin7 r)
 unfold F7 at h
 refine qN [] 100 ⟨[(1, .d t2 a1), (2, .d t2 a2), (3, .ptr 100 0)], [(100, bx t23 a0)]⟩ aN ?_
 refine qN [] 200 ⟨[(1, .d t2 a1), (2, .d t2 a2), (3, .ptr 100 0), (7, .nil)], [(100, bx t23 a0)]⟩ aN ?_
 refine Run.sq ?_
 refine qN [] 300 ⟨[(1, .d t2 a1), (2, .d t2 a2), (7, .nil), (11, .d t22 a0.2.2.2.2.2.2.1), (12, .d t2 (ofN (List.length a0.2.2.2.2.2.2.1))), (13, .d t2 (0 : Int))], []⟩ aN ?_
 refine Run.bl 0 ?_
 refine Run.name (s' := ⟨[(7, .vec 90007 t33), (1, .d t2 a1), (2, .d t2 a2), (7, .nil), (11, .d t22 a0.2.2.2.2.2.2.1), (12, .d t2 (ofN (List.length a0.2.2.2.2.2.2.1))), (13, .d t2 (0 : Int))], [(90007, .vec 34 t33 [])]⟩) 7 90007 34 t33 (by kernel_rfl) ?_
 refine qK ⟨[(1, .d t2 a1), (2, .d t2 a2), (7, .vec 90007 t33), (11, .d t22 a0.2.2.2.2.2.2.1), (12, .d t2 (ofN (List.length a0.2.2.2.2.2.2.1))), (13, .d t2 (0 : Int))], [(90007, .vec 34 t33 ([] : List (Int × Int × Int × Int × Int)))]⟩ ?_
 obtain ⟨o25, h_o25, h⟩ := bnd_elim h
 refine Run.mono (f7_l0_ok a1 a2 a0.2.2.2.2.2.2.1 (ofN (List.length a0.2.2.2.2.2.2.1)) _ (0 : Int) ([] : List (Int × Int × Int × Int × Int)) h_o25) ?_
 rintro _ _ ⟨rfl, rfl⟩
 show Run Pg 46 _ _ _
 refine qN [] 900 ⟨[(6, .vec 90007 t33)], [(90007, .vec 34 t33 o25)]⟩ aN ?_
 refine Run.freeze (s' := ⟨[(6, .d t22 o25)], []⟩) 90007 (by kernel_rfl) ?_
 refine Run.rt ?_
 obtain rfl := sI h
 exact qR [(.d t22 o25)]

/-! ## f17 -/

noncomputable def c_17 : Code := body0 Go.Proofs.Tryz.f17

def fin17 (r : (Int × Int)) : Ex → St → Prop := endK X0 [.cell 4 26] [26] (.d t25 r)

def F17 (a0 : Int) (a1 : Int) : Option ((Int × Int)) :=
 some (a0, a1)

theorem c17 {a0 : Int} {a1 : Int} {r : (Int × Int)} (h : F17 a0 a1 = some r) : CallPure Pg 17 [(.d t2 a0), (.d t2 a1)] (.d t25 r) := by
 refine qC c_17 8 [.cell 4 26] [26] Go.Proofs.Tryz.func17 ?_
 show Run Pg 8 c_17 ⟨[(0, .d t2 a0), (1, .d t2 a1)], []⟩ (fin17 r)
 unfold F17 at h
 refine qN [] 100 ⟨[(0, .d t2 a0), (1, .d t2 a1), (4, .ptr 100 0)], [(100, bx t25 ((0 : Int), (0 : Int)))]⟩ aN ?_
 refine qN [] 200 ⟨[(4, .ptr 100 0)], [(100, bx t25 (a0, a1))]⟩ aN ?_
 refine Run.rt ?_
 obtain rfl := sI h
 exact qR [(.d t25 (a0, a1))]

/-! ## f34 -/

noncomputable def c_34 : Code := body0 Go.Proofs.Tryz.f34

def fin34 (r : Bool) : Ex → St → Prop := endK X0 [.tmp 2] [4] (.d t4 r)

def F34 (a0 : Int × Int × Int × Int × Int) : Option (Bool) :=
 (bif (decide (a0.2.2.1 < a0.1)) then
 some true
 else
 some (decide (a0.2.2.2.1 < a0.2.1)))

theorem c34 {a0 : Int × Int × Int × Int × Int} {r : Bool} (h : F34 a0 = some r) : CallPure Pg 34 [(.d t33 a0)] (.d t4 r) := by
 refine qC c_34 15 [.tmp 2] [4] Go.Proofs.Tryz.func34 ?_
 show Run Pg 15 c_34 ⟨[(0, .d t33 a0)], []⟩ (fin34 r)
 unfold F34 at h
 refine qN [] 100 ⟨[(1, .ptr 100 0)], [(100, bx t33 a0)]⟩ aN ?_
 rcases bif_elim h with ⟨hb0, h⟩ | ⟨hb0, h⟩
 ·refine qN [(5, .b true)] 200 ⟨[(2, .d t4 true)], []⟩ (aC hb0 aN) ?_
  refine Run.rt ?_
  obtain rfl := sI h
  exact qR [(.d t4 true)]
 ·refine qN [(5, .b false)] 200 ⟨[(2, .d t4 (decide (a0.2.2.2.1 < a0.2.1)))], []⟩ (aC hb0 aN) ?_
  refine Run.rt ?_
  obtain rfl := sI h
  exact qR [(.d t4 (decide (a0.2.2.2.1 < a0.2.1)))]

/-! ## f56 -/

noncomputable def c_56 : Code := body0 Go.Proofs.Tryz.f56

def fin56s0 (r : Int) : Ex → St → Prop := endK X0 [.tmp 4] [3] (.d t2 r)

def f56s0_l0_post (x1 : List (Int × Int × Int × Int × Int)) (x2 : Int) : ((Unit) ⊕ (Int)) → Ex → St → Prop
 | .inl o, x, s => x = .out 0 ∧ s = ⟨[], []⟩
 | .inr o, x, s => x = .ret ∧ fin56s0  o x s

def f56s0_l0_b (x1 : List (Int × Int × Int × Int × Int)) (x2 : Int) (again : Int → Option ((Unit) ⊕ (Int))) : Int → Option ((Unit) ⊕ (Int))
 | x3 =>
 (bif (decide (x3 < x2)) then
 gd (0 ≤ x3) <|
 gd (x3 < ((List.length x1 : Nat) : Int)) <|
 (F34 (List.getD x1 (toN x3) ((0 : Int), (0 : Int), (0 : Int), (0 : Int), (0 : Int)))).bind fun y5 =>
 (bif y5 then
 some (.inr x3)
 else
 again (wrapI .i64 (x3 + (1 : Int))))
 else
 some (.inl ()))

def f56s0_l0 (x1 : List (Int × Int × Int × Int × Int)) (x2 : Int) : Nat → Int → Option ((Unit) ⊕ (Int)) := loopF (f56s0_l0_b x1 x2)

theorem f56s0_l0_ok (x1 : List (Int × Int × Int × Int × Int)) (x2 : Int) (k : Nat) (x3 : Int) {out : ((Unit) ⊕ (Int))} (h : f56s0_l0 x1 x2 k x3 = some out) : Run Pg 19 (bk1 (sq2 (sq1 (sq2 c_56)))) ⟨[(0, .d t22 x1), (1, .fn 34 .vnil .vnil), (7, .d t2 x2), (8, .d t2 x3)], []⟩ (f56s0_l0_post x1 x2 out) := by
 refine Run.loopN (by kernel_rfl) (fun m s => ∃ x3, s = ⟨[(0, .d t22 x1), (1, .fn 34 .vnil .vnil), (7, .d t2 x2), (8, .d t2 x3)], []⟩ ∧ f56s0_l0 x1 x2 m x3 = some out) ?_ k ⟨x3,  rfl, h⟩
 rintro m s ⟨x3,  rfl, h⟩
 cases m with
 | zero => cases h
 | succ m =>
 replace h : f56s0_l0_b x1 x2 (f56s0_l0 x1 x2 m) x3 = some out := h
 unfold f56s0_l0_b at h
 refine qN [] 300 ⟨[(0, .d t22 x1), (1, .fn 34 .vnil .vnil), (7, .d t2 x2), (8, .d t2 x3), (9, .d t4 (decide (x3 < x2)))], []⟩ aN ?_
 refine Run.sq ?_
 refine Run.cd (decide (x3 < x2)) (fun hb => ?_) (fun hb => ?_)
 ·replace h := bif_t h hb
  refine Run.sk ?_
  show Run Pg 19 _ _ _
  refine Run.sq ?_
  refine Run.bl 1 ?_
  refine qN [] 400 ⟨[(0, .d t22 x1), (1, .fn 34 .vnil .vnil), (5, .d t2 x3), (7, .d t2 x2), (8, .d t2 x3)], []⟩ aN ?_
  obtain ⟨g_0, h⟩ := gd_elim h
  obtain ⟨g_1, h⟩ := gd_elim h
  obtain ⟨y5, h_y5, h⟩ := bnd_elim h
  refine qN [(5, .call (.d t4 y5))] 500 ⟨[(0, .d t22 x1), (1, .fn 34 .vnil .vnil), (5, .d t2 x3), (7, .d t2 x2), (8, .d t2 x3), (16, .d t4 y5)], []⟩ (aC g_0 (aC g_1 (aC (c34 h_y5) aN))) ?_
  refine Run.cd y5 (fun hb => ?_) (fun hb => ?_)
  ·replace h := bif_t h hb
   refine qN [] 600 ⟨[(4, .d t2 x3)], []⟩ aN ?_
   refine Run.rt ?_
   obtain rfl := sI h
   exact ⟨rfl, [(.d t2 x3)], by kernel_rfl, by kernel_rfl⟩
  ·replace h := bif_f h hb
   refine Run.sk ?_
   show Run Pg 19 _ _ _
   refine qE [] 700 ⟨[(0, .d t22 x1), (1, .fn 34 .vnil .vnil), (7, .d t2 x2), (8, .d t2 (wrapI .i64 (x3 + (1 : Int))))], []⟩ aN ?_
   exact ⟨m, Nat.lt_succ_self m, _, rfl, h⟩
 ·replace h := bif_f h hb
  refine qK ⟨[], []⟩ ?_
  refine Run.ex 0 ?_
  obtain rfl := sI h
  exact ⟨rfl, by kernel_rfl⟩

def F56s0 (a0 : List (Int × Int × Int × Int × Int)) : Option (Int) :=
 ((f56s0_l0 a0 (ofN (List.length a0)) (2 + List.length a0) (0 : Int)).bind fun o6 => match o6 with
 | .inl o7 =>
 some (-1 : Int)
 | .inr o8 =>
 some o8)

theorem c56s0 {a0 : List (Int × Int × Int × Int × Int)} {r : Int} (h : F56s0 a0 = some r) : CallPure Pg 56 [(.d t22 a0), (.fn 34 .vnil .vnil)] (.d t2 r) := by
 refine qC c_56 19 [.tmp 4] [3] Go.Proofs.Tryz.func56 ?_
 show Run Pg 19 c_56 ⟨[(0, .d t22 a0), (1, .fn 34 .vnil .vnil)], []⟩ (fin56s0 r)
 unfold F56s0 at h
 refine qN [] 100 ⟨[(0, .d t22 a0), (1, .fn 34 .vnil .vnil)], []⟩ aN ?_
 refine Run.sq ?_
 refine qN [] 200 ⟨[(0, .d t22 a0), (1, .fn 34 .vnil .vnil), (7, .d t2 (ofN (List.length a0))), (8, .d t2 (0 : Int))], []⟩ aN ?_
 refine Run.bl 0 ?_
 obtain ⟨o6, h_o6, h⟩ := bnd_elim h
 refine Run.mono (f56s0_l0_ok a0 (ofN (List.length a0)) _ (0 : Int) h_o6) ?_
 rcases o6 with o7 | o8
 ·rintro _ _ ⟨rfl, rfl⟩
  show Run Pg 19 _ _ _
  refine qN [] 800 ⟨[(4, .d t2 (-1 : Int))], []⟩ aN ?_
  refine Run.rt ?_
  obtain rfl := sI h
  exact qR [(.d t2 (-1 : Int))]
 ·rintro _ s ⟨rfl, hr⟩
  obtain rfl := sI h
  exact hr

/-! ## f33 -/

noncomputable def c_33 : Code := body0 Go.Proofs.Tryz.f33

def fin33s0 (r : Bool) : Ex → St → Prop := endK X0 [.tmp 4] [4] (.d t4 r)

def F33s0 (a0 : List (Int × Int × Int × Int × Int)) : Option (Bool) :=
 (F56s0 a0).bind fun y1 =>
 some (decide ((0 : Int) ≤ y1))

theorem c33s0 {a0 : List (Int × Int × Int × Int × Int)} {r : Bool} (h : F33s0 a0 = some r) : CallPure Pg 33 [(.d t22 a0), (.fn 34 .vnil .vnil)] (.d t4 r) := by
 refine qC c_33 9 [.tmp 4] [4] Go.Proofs.Tryz.func33 ?_
 show Run Pg 9 c_33 ⟨[(0, .d t22 a0), (1, .fn 34 .vnil .vnil)], []⟩ (fin33s0 r)
 unfold F33s0 at h
 refine qN [] 100 ⟨[(0, .d t22 a0), (1, .fn 34 .vnil .vnil)], []⟩ aN ?_
 obtain ⟨y1, h_y1, h⟩ := bnd_elim h
 refine qN [(2, .call (.d t2 y1))] 200 ⟨[(4, .d t4 (decide ((0 : Int) ≤ y1)))], []⟩ (aC (c56s0 h_y1) aN) ?_
 refine Run.rt ?_
 obtain rfl := sI h
 exact qR [(.d t4 (decide ((0 : Int) ≤ y1)))]

/-! ## f24 -/

noncomputable def c_24 : Code := body0 Go.Proofs.Tryz.f24

def fin24 (r : Bool) : Ex → St → Prop := endK X0 [.tmp 2] [4] (.d t4 r)

def f24_l0_post (x1 : List Int) (x2 : Int) : ((Unit) ⊕ (Bool)) → Ex → St → Prop
 | .inl o, x, s => x = .out 0 ∧ s = ⟨[], []⟩
 | .inr o, x, s => x = .ret ∧ fin24  o x s

def f24_l0_b (x1 : List Int) (x2 : Int) (again : Int → Option ((Unit) ⊕ (Bool))) : Int → Option ((Unit) ⊕ (Bool))
 | x3 =>
 (bif (decide (x3 < x2)) then
 gd (0 ≤ x3) <|
 gd (x3 < ((List.length x1 : Nat) : Int)) <|
 (bif (decide ((10000000 : Int) < (List.getD x1 (toN x3) (0 : Int)))) then
 some (.inr true)
 else
 (bif (decide ((List.getD x1 (toN x3) (0 : Int)) < (-10000000 : Int))) then
 some (.inr true)
 else
 again (wrapI .i64 (x3 + (1 : Int)))))
 else
 some (.inl ()))

def f24_l0 (x1 : List Int) (x2 : Int) : Nat → Int → Option ((Unit) ⊕ (Bool)) := loopF (f24_l0_b x1 x2)

theorem f24_l0_ok (x1 : List Int) (x2 : Int) (k : Nat) (x3 : Int) {out : ((Unit) ⊕ (Bool))} (h : f24_l0 x1 x2 k x3 = some out) : Run Pg 18 (bk1 (sq2 (sq1 (sq2 c_24)))) ⟨[(5, .d t53 x1), (6, .d t2 x2), (7, .d t2 x3)], []⟩ (f24_l0_post x1 x2 out) := by
 refine Run.loopN (by kernel_rfl) (fun m s => ∃ x3, s = ⟨[(5, .d t53 x1), (6, .d t2 x2), (7, .d t2 x3)], []⟩ ∧ f24_l0 x1 x2 m x3 = some out) ?_ k ⟨x3,  rfl, h⟩
 rintro m s ⟨x3,  rfl, h⟩
 cases m with
 | zero => cases h
 | succ m =>
 replace h : f24_l0_b x1 x2 (f24_l0 x1 x2 m) x3 = some out := h
 unfold f24_l0_b at h
 refine qN [] 300 ⟨[(5, .d t53 x1), (6, .d t2 x2), (7, .d t2 x3), (8, .d t4 (decide (x3 < x2)))], []⟩ aN ?_
 refine Run.sq ?_
 refine Run.cd (decide (x3 < x2)) (fun hb => ?_) (fun hb => ?_)
 ·replace h := bif_t h hb
  refine Run.sk ?_
  show Run Pg 18 _ _ _
  refine Run.sq ?_
  refine Run.bl 1 ?_
  obtain ⟨g_0, h⟩ := gd_elim h
  obtain ⟨g_1, h⟩ := gd_elim h
  refine qN [] 400 ⟨[(4, .d t2 (List.getD x1 (toN x3) (0 : Int))), (5, .d t53 x1), (6, .d t2 x2), (7, .d t2 x3)], []⟩ (aC g_0 (aC g_1 aN)) ?_
  rcases bif_elim h with ⟨hb0, h⟩ | ⟨hb0, h⟩
  ·refine qN [(2, .b true)] 500 ⟨[(5, .d t53 x1), (6, .d t2 x2), (7, .d t2 x3), (16, .d t4 true)], []⟩ (aC hb0 aN) ?_
   refine Run.cd true (fun hb => ?_) (fun hb => (by cases hb))
   refine qN [] 600 ⟨[(2, .d t4 true)], []⟩ aN ?_
   refine Run.rt ?_
   obtain rfl := sI h
   exact ⟨rfl, [(.d t4 true)], by kernel_rfl, by kernel_rfl⟩
  ·refine qN [(2, .b false)] 500 ⟨[(5, .d t53 x1), (6, .d t2 x2), (7, .d t2 x3), (16, .d t4 (decide ((List.getD x1 (toN x3) (0 : Int)) < (-10000000 : Int))))], []⟩ (aC hb0 aN) ?_
   refine Run.cd (decide ((List.getD x1 (toN x3) (0 : Int)) < (-10000000 : Int))) (fun hb => ?_) (fun hb => ?_)
   ·replace h := bif_t h hb
    refine qN [] 600 ⟨[(2, .d t4 true)], []⟩ aN ?_
    refine Run.rt ?_
    obtain rfl := sI h
    exact ⟨rfl, [(.d t4 true)], by kernel_rfl, by kernel_rfl⟩
   ·replace h := bif_f h hb
    refine Run.sk ?_
    show Run Pg 18 _ _ _
    refine qE [] 700 ⟨[(5, .d t53 x1), (6, .d t2 x2), (7, .d t2 (wrapI .i64 (x3 + (1 : Int))))], []⟩ aN ?_
    exact ⟨m, Nat.lt_succ_self m, _, rfl, h⟩
 ·replace h := bif_f h hb
  refine qK ⟨[], []⟩ ?_
  refine Run.ex 0 ?_
  obtain rfl := sI h
  exact ⟨rfl, by kernel_rfl⟩

def F24 (a0 : List Int) : Option (Bool) :=
 ((f24_l0 a0 (ofN (List.length a0)) (2 + List.length a0) (0 : Int)).bind fun o4 => match o4 with
 | .inl o5 =>
 some false
 | .inr o6 =>
 some o6)

theorem c24 {a0 : List Int} {r : Bool} (h : F24 a0 = some r) : CallPure Pg 24 [(.d t53 a0)] (.d t4 r) := by
 refine qC c_24 18 [.tmp 2] [4] Go.Proofs.Tryz.func24 ?_
 show Run Pg 18 c_24 ⟨[(0, .d t53 a0)], []⟩ (fin24 r)
 unfold F24 at h
 refine qN [] 100 ⟨[(0, .d t53 a0)], []⟩ aN ?_
 refine Run.sq ?_
 refine qN [] 200 ⟨[(5, .d t53 a0), (6, .d t2 (ofN (List.length a0))), (7, .d t2 (0 : Int))], []⟩ aN ?_
 refine Run.bl 0 ?_
 obtain ⟨o4, h_o4, h⟩ := bnd_elim h
 refine Run.mono (f24_l0_ok a0 (ofN (List.length a0)) _ (0 : Int) h_o4) ?_
 rcases o4 with o5 | o6
 ·rintro _ _ ⟨rfl, rfl⟩
  show Run Pg 18 _ _ _
  refine qN [] 800 ⟨[(2, .d t4 false)], []⟩ aN ?_
  refine Run.rt ?_
  obtain rfl := sI h
  exact qR [(.d t4 false)]
 ·rintro _ s ⟨rfl, hr⟩
  obtain rfl := sI h
  exact hr

/-! ## f35 -/

noncomputable def c_35 : Code := body0 Go.Proofs.Tryz.f35

def fin35 (r : Bool) : Ex → St → Prop := endK X0 [.tmp 2] [4] (.d t4 r)

def F35 (a0 : Int × Int × Int × Int × Int) : Option (Bool) :=
 (F24 ([a0.1, a0.2.1, a0.2.2.1, a0.2.2.2.1] : List Int)).bind fun y1 =>
 some y1

theorem c35 {a0 : Int × Int × Int × Int × Int} {r : Bool} (h : F35 a0 = some r) : CallPure Pg 35 [(.d t33 a0)] (.d t4 r) := by
 refine qC c_35 13 [.tmp 2] [4] Go.Proofs.Tryz.func35 ?_
 show Run Pg 13 c_35 ⟨[(0, .d t33 a0)], []⟩ (fin35 r)
 unfold F35 at h
 refine qN [] 100 ⟨[(1, .ptr 100 0)], [(100, bx t33 a0)]⟩ aN ?_
 obtain ⟨y1, h_y1, h⟩ := bnd_elim h
 refine qN [(9, .call (.d t4 y1))] 200 ⟨[(2, .d t4 y1)], []⟩ (aC (c24 h_y1) aN) ?_
 refine Run.rt ?_
 obtain rfl := sI h
 exact qR [(.d t4 y1)]

/-! ## f56 -/

def fin56s1 (r : Int) : Ex → St → Prop := endK X0 [.tmp 4] [3] (.d t2 r)

def f56s1_l0_post (x1 : List (Int × Int × Int × Int × Int)) (x2 : Int) : ((Unit) ⊕ (Int)) → Ex → St → Prop
 | .inl o, x, s => x = .out 0 ∧ s = ⟨[], []⟩
 | .inr o, x, s => x = .ret ∧ fin56s1  o x s

def f56s1_l0_b (x1 : List (Int × Int × Int × Int × Int)) (x2 : Int) (again : Int → Option ((Unit) ⊕ (Int))) : Int → Option ((Unit) ⊕ (Int))
 | x3 =>
 (bif (decide (x3 < x2)) then
 gd (0 ≤ x3) <|
 gd (x3 < ((List.length x1 : Nat) : Int)) <|
 (F35 (List.getD x1 (toN x3) ((0 : Int), (0 : Int), (0 : Int), (0 : Int), (0 : Int)))).bind fun y5 =>
 (bif y5 then
 some (.inr x3)
 else
 again (wrapI .i64 (x3 + (1 : Int))))
 else
 some (.inl ()))

def f56s1_l0 (x1 : List (Int × Int × Int × Int × Int)) (x2 : Int) : Nat → Int → Option ((Unit) ⊕ (Int)) := loopF (f56s1_l0_b x1 x2)

theorem f56s1_l0_ok (x1 : List (Int × Int × Int × Int × Int)) (x2 : Int) (k : Nat) (x3 : Int) {out : ((Unit) ⊕ (Int))} (h : f56s1_l0 x1 x2 k x3 = some out) : Run Pg 19 (bk1 (sq2 (sq1 (sq2 c_56)))) ⟨[(0, .d t22 x1), (1, .fn 35 .vnil .vnil), (7, .d t2 x2), (8, .d t2 x3)], []⟩ (f56s1_l0_post x1 x2 out) := by
 refine Run.loopN (by kernel_rfl) (fun m s => ∃ x3, s = ⟨[(0, .d t22 x1), (1, .fn 35 .vnil .vnil), (7, .d t2 x2), (8, .d t2 x3)], []⟩ ∧ f56s1_l0 x1 x2 m x3 = some out) ?_ k ⟨x3,  rfl, h⟩
 rintro m s ⟨x3,  rfl, h⟩
 cases m with
 | zero => cases h
 | succ m =>
 replace h : f56s1_l0_b x1 x2 (f56s1_l0 x1 x2 m) x3 = some out := h
 unfold f56s1_l0_b at h
 refine qN [] 300 ⟨[(0, .d t22 x1), (1, .fn 35 .vnil .vnil), (7, .d t2 x2), (8, .d t2 x3), (9, .d t4 (decide (x3 < x2)))], []⟩ aN ?_
 refine Run.sq ?_
 refine Run.cd (decide (x3 < x2)) (fun hb => ?_) (fun hb => ?_)
 ·replace h := bif_t h hb
  refine Run.sk ?_
  show Run Pg 19 _ _ _
  refine Run.sq ?_
  refine Run.bl 1 ?_
  refine qN [] 400 ⟨[(0, .d t22 x1), (1, .fn 35 .vnil .vnil), (5, .d t2 x3), (7, .d t2 x2), (8, .d t2 x3)], []⟩ aN ?_
  obtain ⟨g_0, h⟩ := gd_elim h
  obtain ⟨g_1, h⟩ := gd_elim h
  obtain ⟨y5, h_y5, h⟩ := bnd_elim h
  refine qN [(5, .call (.d t4 y5))] 500 ⟨[(0, .d t22 x1), (1, .fn 35 .vnil .vnil), (5, .d t2 x3), (7, .d t2 x2), (8, .d t2 x3), (16, .d t4 y5)], []⟩ (aC g_0 (aC g_1 (aC (c35 h_y5) aN))) ?_
  refine Run.cd y5 (fun hb => ?_) (fun hb => ?_)
  ·replace h := bif_t h hb
   refine qN [] 600 ⟨[(4, .d t2 x3)], []⟩ aN ?_
   refine Run.rt ?_
   obtain rfl := sI h
   exact ⟨rfl, [(.d t2 x3)], by kernel_rfl, by kernel_rfl⟩
  ·replace h := bif_f h hb
   refine Run.sk ?_
   show Run Pg 19 _ _ _
   refine qE [] 700 ⟨[(0, .d t22 x1), (1, .fn 35 .vnil .vnil), (7, .d t2 x2), (8, .d t2 (wrapI .i64 (x3 + (1 : Int))))], []⟩ aN ?_
   exact ⟨m, Nat.lt_succ_self m, _, rfl, h⟩
 ·replace h := bif_f h hb
  refine qK ⟨[], []⟩ ?_
  refine Run.ex 0 ?_
  obtain rfl := sI h
  exact ⟨rfl, by kernel_rfl⟩

def F56s1 (a0 : List (Int × Int × Int × Int × Int)) : Option (Int) :=
 ((f56s1_l0 a0 (ofN (List.length a0)) (2 + List.length a0) (0 : Int)).bind fun o6 => match o6 with
 | .inl o7 =>
 some (-1 : Int)
 | .inr o8 =>
 some o8)

theorem c56s1 {a0 : List (Int × Int × Int × Int × Int)} {r : Int} (h : F56s1 a0 = some r) : CallPure Pg 56 [(.d t22 a0), (.fn 35 .vnil .vnil)] (.d t2 r) := by
 refine qC c_56 19 [.tmp 4] [3] Go.Proofs.Tryz.func56 ?_
 show Run Pg 19 c_56 ⟨[(0, .d t22 a0), (1, .fn 35 .vnil .vnil)], []⟩ (fin56s1 r)
 unfold F56s1 at h
 refine qN [] 100 ⟨[(0, .d t22 a0), (1, .fn 35 .vnil .vnil)], []⟩ aN ?_
 refine Run.sq ?_
 refine qN [] 200 ⟨[(0, .d t22 a0), (1, .fn 35 .vnil .vnil), (7, .d t2 (ofN (List.length a0))), (8, .d t2 (0 : Int))], []⟩ aN ?_
 refine Run.bl 0 ?_
 obtain ⟨o6, h_o6, h⟩ := bnd_elim h
 refine Run.mono (f56s1_l0_ok a0 (ofN (List.length a0)) _ (0 : Int) h_o6) ?_
 rcases o6 with o7 | o8
 ·rintro _ _ ⟨rfl, rfl⟩
  show Run Pg 19 _ _ _
  refine qN [] 800 ⟨[(4, .d t2 (-1 : Int))], []⟩ aN ?_
  refine Run.rt ?_
  obtain rfl := sI h
  exact qR [(.d t2 (-1 : Int))]
 ·rintro _ s ⟨rfl, hr⟩
  obtain rfl := sI h
  exact hr

/-! ## f33 -/

def fin33s1 (r : Bool) : Ex → St → Prop := endK X0 [.tmp 4] [4] (.d t4 r)

def F33s1 (a0 : List (Int × Int × Int × Int × Int)) : Option (Bool) :=
 (F56s1 a0).bind fun y1 =>
 some (decide ((0 : Int) ≤ y1))

theorem c33s1 {a0 : List (Int × Int × Int × Int × Int)} {r : Bool} (h : F33s1 a0 = some r) : CallPure Pg 33 [(.d t22 a0), (.fn 35 .vnil .vnil)] (.d t4 r) := by
 refine qC c_33 9 [.tmp 4] [4] Go.Proofs.Tryz.func33 ?_
 show Run Pg 9 c_33 ⟨[(0, .d t22 a0), (1, .fn 35 .vnil .vnil)], []⟩ (fin33s1 r)
 unfold F33s1 at h
 refine qN [] 100 ⟨[(0, .d t22 a0), (1, .fn 35 .vnil .vnil)], []⟩ aN ?_
 obtain ⟨y1, h_y1, h⟩ := bnd_elim h
 refine qN [(2, .call (.d t2 y1))] 200 ⟨[(4, .d t4 (decide ((0 : Int) ≤ y1)))], []⟩ (aC (c56s1 h_y1) aN) ?_
 refine Run.rt ?_
 obtain rfl := sI h
 exact qR [(.d t4 (decide ((0 : Int) ≤ y1)))]

/-! ## f43 -/

noncomputable def c_43 : Code := body0 Go.Proofs.Tryz.f43

def fin43 (r : Bool) : Ex → St → Prop := endK X0 [.tmp 4] [4] (.d t4 r)

def F43 (a0 : Int × Int) (a1 : Int × Int) : Option (Bool) :=
 some (decide ((wrapI .i64 (a0.1 * a1.2)) < (wrapI .i64 (a1.1 * a0.2))))

theorem c43 {a0 : Int × Int} {a1 : Int × Int} {r : Bool} (h : F43 a0 a1 = some r) : CallPure Pg 43 [(.d t25 a0), (.d t25 a1)] (.d t4 r) := by
 refine qC c_43 16 [.tmp 4] [4] Go.Proofs.Tryz.func43 ?_
 show Run Pg 16 c_43 ⟨[(0, .d t25 a0), (1, .d t25 a1)], []⟩ (fin43 r)
 unfold F43 at h
 refine qN [] 100 ⟨[(2, .ptr 100 0), (3, .ptr 101 0)], [(100, bx t25 a0), (101, bx t25 a1)]⟩ aN ?_
 refine qN [] 200 ⟨[(4, .d t4 (decide ((wrapI .i64 (a0.1 * a1.2)) < (wrapI .i64 (a1.1 * a0.2)))))], []⟩ aN ?_
 refine Run.rt ?_
 obtain rfl := sI h
 exact qR [(.d t4 (decide ((wrapI .i64 (a0.1 * a1.2)) < (wrapI .i64 (a1.1 * a0.2)))))]

/-! ## f41 -/

noncomputable def c_41 : Code := body0 Go.Proofs.Tryz.f41

def fin41 (r : (Int × Int)) : Ex → St → Prop := endK X0 [.cell 4 76] [76] (.d t25 r)

def F41 (a0 : Int × Int) (a1 : Int × Int) : Option ((Int × Int)) :=
 (F43 a0 a1).bind fun y1 =>
 (bif y1 then
 some a1
 else
 some a0)

theorem c41 {a0 : Int × Int} {a1 : Int × Int} {r : (Int × Int)} (h : F41 a0 a1 = some r) : CallPure Pg 41 [(.d t25 a0), (.d t25 a1)] (.d t25 r) := by
 refine qC c_41 10 [.cell 4 76] [76] Go.Proofs.Tryz.func41 ?_
 show Run Pg 10 c_41 ⟨[(0, .d t25 a0), (1, .d t25 a1)], []⟩ (fin41 r)
 unfold F41 at h
 refine qN [] 100 ⟨[(2, .ptr 100 0), (3, .ptr 101 0), (4, .ptr 102 0)], [(100, bx t25 a0), (101, bx t25 a1), (102, bx t25 ((0 : Int), (0 : Int)))]⟩ aN ?_
 refine Run.sq ?_
 obtain ⟨y1, h_y1, h⟩ := bnd_elim h
 refine qN [(2, .call (.d t4 y1))] 200 ⟨[(2, .ptr 100 0), (3, .ptr 101 0), (4, .ptr 102 0), (7, .d t4 y1)], [(100, bx t25 a0), (101, bx t25 a1), (102, bx t25 ((0 : Int), (0 : Int)))]⟩ (aC (c43 h_y1) aN) ?_
 refine Run.cd y1 (fun hb => ?_) (fun hb => ?_)
 ·replace h := bif_t h hb
  refine qN [] 300 ⟨[(4, .ptr 102 0)], [(102, bx t25 a1)]⟩ aN ?_
  refine Run.rt ?_
  obtain rfl := sI h
  exact qR [(.d t25 a1)]
 ·replace h := bif_f h hb
  refine Run.sk ?_
  show Run Pg 10 _ _ _
  refine qN [] 400 ⟨[(4, .ptr 102 0)], [(102, bx t25 a0)]⟩ aN ?_
  refine Run.rt ?_
  obtain rfl := sI h
  exact qR [(.d t25 a0)]

/-! ## f42 -/

noncomputable def c_42 : Code := body0 Go.Proofs.Tryz.f42

def fin42 (r : (Int × Int)) : Ex → St → Prop := endK X0 [.cell 4 76] [76] (.d t25 r)

def F42 (a0 : Int × Int) (a1 : Int × Int) : Option ((Int × Int)) :=
 (F43 a1 a0).bind fun y1 =>
 (bif y1 then
 some a1
 else
 some a0)

theorem c42 {a0 : Int × Int} {a1 : Int × Int} {r : (Int × Int)} (h : F42 a0 a1 = some r) : CallPure Pg 42 [(.d t25 a0), (.d t25 a1)] (.d t25 r) := by
 refine qC c_42 10 [.cell 4 76] [76] Go.Proofs.Tryz.func42 ?_
 show Run Pg 10 c_42 ⟨[(0, .d t25 a0), (1, .d t25 a1)], []⟩ (fin42 r)
 unfold F42 at h
 refine qN [] 100 ⟨[(2, .ptr 100 0), (3, .ptr 101 0), (4, .ptr 102 0)], [(100, bx t25 a0), (101, bx t25 a1), (102, bx t25 ((0 : Int), (0 : Int)))]⟩ aN ?_
 refine Run.sq ?_
 obtain ⟨y1, h_y1, h⟩ := bnd_elim h
 refine qN [(2, .call (.d t4 y1))] 200 ⟨[(2, .ptr 100 0), (3, .ptr 101 0), (4, .ptr 102 0), (7, .d t4 y1)], [(100, bx t25 a0), (101, bx t25 a1), (102, bx t25 ((0 : Int), (0 : Int)))]⟩ (aC (c43 h_y1) aN) ?_
 refine Run.cd y1 (fun hb => ?_) (fun hb => ?_)
 ·replace h := bif_t h hb
  refine qN [] 300 ⟨[(4, .ptr 102 0)], [(102, bx t25 a1)]⟩ aN ?_
  refine Run.rt ?_
  obtain rfl := sI h
  exact qR [(.d t25 a1)]
 ·replace h := bif_f h hb
  refine Run.sk ?_
  show Run Pg 10 _ _ _
  refine qN [] 400 ⟨[(4, .ptr 102 0)], [(102, bx t25 a0)]⟩ aN ?_
  refine Run.rt ?_
  obtain rfl := sI h
  exact qR [(.d t25 a0)]

/-! ## f40 -/

noncomputable def c_40 : Code := body0 Go.Proofs.Tryz.f40

def fin40s0 (a4 : Int × Int) (a5 : Int × Int) (r : Bool × (Int × Int) × (Int × Int)) : Ex → St → Prop := endS X0 [.tmp 10] [4] (.d t4 r.1) [(1000000, bx t25 r.2.1), (1000001, bx t25 r.2.2)]

def f40s0_c0_post (x1 : Int) (x2 : Int) (x3 : Int) (x4 : Int) (x5 : Bool) (x6 : Int × Int) (x7 : Int × Int) (x8 : Int × Int) (x9 : Int × Int) : ((Int × Int) × (Int × Int)) → Ex → St → Prop
 | o, x, s => x = .nrm ∧ s = ⟨[(4, .ptr 1000000 0), (5, .ptr 1000001 0), (11, .ptr 410 0), (12, .ptr 411 0)], [(410, bx t25 o.1), (411, bx t25 o.2), (1000000, bx t25 x8), (1000001, bx t25 x9)]⟩

def f40s0_c0 (x1 : Int) (x2 : Int) (x3 : Int) (x4 : Int) (x5 : Bool) (x6 : Int × Int) (x7 : Int × Int) : Option ((Int × Int) × (Int × Int)) :=
 (bif x5 then
 some (((wrapI .i64 (x1 - x4)), (wrapI .i64 (0 - x2))), ((wrapI .i64 (x1 - x3)), (wrapI .i64 (0 - x2))))
 else
 some (x6, x7))

theorem f40s0_c0_ok (x1 : Int) (x2 : Int) (x3 : Int) (x4 : Int) (x5 : Bool) (x6 : Int × Int) (x7 : Int × Int) (x8 : Int × Int) (x9 : Int × Int) {out : ((Int × Int) × (Int × Int))} (h : f40s0_c0 x1 x2 x3 x4 x5 x6 x7 = some out) : Run Pg 53 (sq2 (sq1 (sq2 (sq2 (sq2 c_40))))) ⟨[(0, .d t2 x1), (1, .d t2 x2), (2, .d t2 x3), (3, .d t2 x4), (4, .ptr 1000000 0), (5, .ptr 1000001 0), (11, .ptr 410 0), (12, .ptr 411 0), (34, .d t4 x5)], [(410, bx t25 x6), (411, bx t25 x7), (1000000, bx t25 x8), (1000001, bx t25 x9)]⟩ (f40s0_c0_post x1 x2 x3 x4 x5 x6 x7 x8 x9 out) := by
 unfold f40s0_c0 at h
 refine Run.cd x5 (fun hb => ?_) (fun hb => ?_)
 ·replace h := bif_t h hb
  refine qE [] 600 ⟨[(4, .ptr 1000000 0), (5, .ptr 1000001 0), (11, .ptr 410 0), (12, .ptr 411 0)], [(410, bx t25 ((wrapI .i64 (x1 - x4)), (wrapI .i64 (0 - x2)))), (411, bx t25 ((wrapI .i64 (x1 - x3)), (wrapI .i64 (0 - x2)))), (1000000, bx t25 x8), (1000001, bx t25 x9)]⟩ aN ?_
  obtain rfl := sI h
  exact ⟨rfl, by kernel_rfl⟩
 ·replace h := bif_f h hb
  refine qK ⟨[(4, .ptr 1000000 0), (5, .ptr 1000001 0), (11, .ptr 410 0), (12, .ptr 411 0)], [(410, bx t25 x6), (411, bx t25 x7), (1000000, bx t25 x8), (1000001, bx t25 x9)]⟩ ?_
  refine Run.sk ?_
  obtain rfl := sI h
  exact ⟨rfl, by kernel_rfl⟩

def F40s0 (a0 : Int) (a1 : Int) (a2 : Int) (a3 : Int) (a4 : Int × Int) (a5 : Int × Int) : Option (Bool × (Int × Int) × (Int × Int)) :=
 (bif (a1 == (0 : Int)) then
 (bif (decide (a2 < a0)) then
 some ((decide (a0 < a3)), a4, a5)
 else
 some (false, a4, a5))
 else
 ((f40s0_c0 a0 a1 a2 a3 (decide (a1 < (0 : Int))) ((wrapI .i64 (a2 - a0)), a1) ((wrapI .i64 (a3 - a0)), a1)).bind fun o10 =>
 (F41 a4 o10.1).bind fun y11 =>
 (F42 a5 o10.2).bind fun y12 =>
 some (true, y11, y12)))

theorem c40s0 {a0 : Int} {a1 : Int} {a2 : Int} {a3 : Int} {a4 : Int × Int} {a5 : Int × Int} {r : Bool × (Int × Int) × (Int × Int)} (h : F40s0 a0 a1 a2 a3 a4 a5 = some r) : CallSt Pg 40 [(.d t2 a0), (.d t2 a1), (.d t2 a2), (.d t2 a3), (.ptr 1000000 0), (.ptr 1000001 0)] [(1000000, bx t25 a4), (1000001, bx t25 a5)] (.d t4 r.1) [(1000000, bx t25 r.2.1), (1000001, bx t25 r.2.2)] := by
 refine callStN hX c_40 53 [.tmp 10] [4] Go.Proofs.Tryz.func40 (by kernel_rfl) (by kernel_rfl) (by kernel_rfl) (Nat.le_of_ble_eq_true rfl) rfl ?_
 show Run Pg 53 c_40 ⟨[(0, .d t2 a0), (1, .d t2 a1), (2, .d t2 a2), (3, .d t2 a3), (4, .ptr 1000000 0), (5, .ptr 1000001 0)], [(1000000, bx t25 a4), (1000001, bx t25 a5)]⟩ (fin40s0 a4 a5 r)
 unfold F40s0 at h
 refine qN [] 100 ⟨[(0, .d t2 a0), (1, .d t2 a1), (2, .d t2 a2), (3, .d t2 a3), (4, .ptr 1000000 0), (5, .ptr 1000001 0)], [(1000000, bx t25 a4), (1000001, bx t25 a5)]⟩ aN ?_
 refine Run.sq ?_
 refine qN [] 200 ⟨[(0, .d t2 a0), (1, .d t2 a1), (2, .d t2 a2), (3, .d t2 a3), (4, .ptr 1000000 0), (5, .ptr 1000001 0), (14, .d t4 (a1 == (0 : Int)))], [(1000000, bx t25 a4), (1000001, bx t25 a5)]⟩ aN ?_
 refine Run.cd (a1 == (0 : Int)) (fun hb => ?_) (fun hb => ?_)
 ·replace h := bif_t h hb
  rcases bif_elim h with ⟨hb0, h⟩ | ⟨hb0, h⟩
  ·refine qN [(3, .b true)] 300 ⟨[(10, .d t4 (decide (a0 < a3)))], [(1000000, bx t25 a4), (1000001, bx t25 a5)]⟩ (aC hb0 aN) ?_
   refine Run.rt ?_
   obtain rfl := sI h
   exact ⟨[(.d t4 (decide (a0 < a3)))], ⟨[], [(1000000, bx t25 a4), (1000001, bx t25 a5)]⟩, by kernel_rfl, by kernel_rfl, by kernel_rfl, by kernel_rfl⟩
  ·refine qN [(3, .b false)] 300 ⟨[(10, .d t4 false)], [(1000000, bx t25 a4), (1000001, bx t25 a5)]⟩ (aC hb0 aN) ?_
   refine Run.rt ?_
   obtain rfl := sI h
   exact ⟨[(.d t4 false)], ⟨[], [(1000000, bx t25 a4), (1000001, bx t25 a5)]⟩, by kernel_rfl, by kernel_rfl, by kernel_rfl, by kernel_rfl⟩
 ·replace h := bif_f h hb
  refine Run.sk ?_
  show Run Pg 53 _ _ _
  refine qN [] 400 ⟨[(0, .d t2 a0), (1, .d t2 a1), (2, .d t2 a2), (3, .d t2 a3), (4, .ptr 1000000 0), (5, .ptr 1000001 0), (11, .ptr 410 0), (12, .ptr 411 0)], [(410, bx t25 ((wrapI .i64 (a2 - a0)), a1)), (411, bx t25 ((wrapI .i64 (a3 - a0)), a1)), (1000000, bx t25 a4), (1000001, bx t25 a5)]⟩ aN ?_
  refine Run.sq ?_
  refine qN [] 500 ⟨[(0, .d t2 a0), (1, .d t2 a1), (2, .d t2 a2), (3, .d t2 a3), (4, .ptr 1000000 0), (5, .ptr 1000001 0), (11, .ptr 410 0), (12, .ptr 411 0), (34, .d t4 (decide (a1 < (0 : Int))))], [(410, bx t25 ((wrapI .i64 (a2 - a0)), a1)), (411, bx t25 ((wrapI .i64 (a3 - a0)), a1)), (1000000, bx t25 a4), (1000001, bx t25 a5)]⟩ aN ?_
  obtain ⟨o10, h_o10, h⟩ := bnd_elim h
  refine Run.mono (f40s0_c0_ok a0 a1 a2 a3 (decide (a1 < (0 : Int))) ((wrapI .i64 (a2 - a0)), a1) ((wrapI .i64 (a3 - a0)), a1) a4 a5 h_o10) ?_
  rintro _ _ ⟨rfl, rfl⟩
  show Run Pg 53 _ _ _
  obtain ⟨y11, h_y11, h⟩ := bnd_elim h
  obtain ⟨y12, h_y12, h⟩ := bnd_elim h
  refine qN [(2, .call (.d t25 y11)), (5, .call (.d t25 y12))] 700 ⟨[], [(1000000, bx t25 y11), (1000001, bx t25 y12)]⟩ (aC (c41 h_y11) (aC (c42 h_y12) aN)) ?_
  refine qN [] 800 ⟨[(10, .d t4 true)], [(1000000, bx t25 y11), (1000001, bx t25 y12)]⟩ aN ?_
  refine Run.rt ?_
  obtain rfl := sI h
  exact ⟨[(.d t4 true)], ⟨[], [(1000000, bx t25 y11), (1000001, bx t25 y12)]⟩, by kernel_rfl, by kernel_rfl, by kernel_rfl, by kernel_rfl⟩

/-! ## f19 -/

noncomputable def c_19 : Code := body0 Go.Proofs.Tryz.f19

def fin19 (r : Bool) : Ex → St → Prop := endK X0 [.tmp 6] [4] (.d t4 r)

def F19 (a0 : Int × Int × Int × Int × Int) (a1 : Int × Int) (a2 : Int × Int) : Option (Bool) :=
 (bif (decide (a0.2.2.1 ≤ a0.1)) then
 some false
 else
 (bif (decide (a0.2.2.2.1 ≤ a0.2.1)) then
 some false
 else
 (F40s0 a1.1 (wrapI .i64 (a2.1 - a1.1)) a0.1 a0.2.2.1 ((0 : Int), (1 : Int)) ((1 : Int), (1 : Int))).bind fun y1 =>
 (bif (!y1.1) then
 some false
 else
 (F40s0 a1.2 (wrapI .i64 (a2.2 - a1.2)) a0.2.1 a0.2.2.2.1 y1.2.1 y1.2.2).bind fun y2 =>
 (bif (!y2.1) then
 some false
 else
 (F43 y2.2.1 y2.2.2).bind fun y3 =>
 some y3))))

theorem c19 {a0 : Int × Int × Int × Int × Int} {a1 : Int × Int} {a2 : Int × Int} {r : Bool} (h : F19 a0 a1 a2 = some r) : CallPure Pg 19 [(.d t33 a0), (.d t25 a1), (.d t25 a2)] (.d t4 r) := by
 refine qC c_19 58 [.tmp 6] [4] Go.Proofs.Tryz.func19 ?_
 show Run Pg 58 c_19 ⟨[(0, .d t33 a0), (1, .d t25 a1), (2, .d t25 a2)], []⟩ (fin19 r)
 unfold F19 at h
 refine qN [] 100 ⟨[(3, .ptr 100 0), (4, .ptr 101 0), (5, .ptr 102 0)], [(100, bx t33 a0), (101, bx t25 a1), (102, bx t25 a2)]⟩ aN ?_
 refine Run.sq ?_
 rcases bif_elim h with ⟨hb0, h⟩ | ⟨hb0, h⟩
 ·refine qN [(5, .b true)] 200 ⟨[(3, .ptr 100 0), (4, .ptr 101 0), (5, .ptr 102 0), (21, .d t4 true)], [(100, bx t33 a0), (101, bx t25 a1), (102, bx t25 a2)]⟩ (aC hb0 aN) ?_
  refine Run.cd true (fun hb => ?_) (fun hb => (by cases hb))
  refine qN [] 300 ⟨[(6, .d t4 false)], []⟩ aN ?_
  refine Run.rt ?_
  obtain rfl := sI h
  exact qR [(.d t4 false)]
 ·refine qN [(5, .b false)] 200 ⟨[(3, .ptr 100 0), (4, .ptr 101 0), (5, .ptr 102 0), (21, .d t4 (decide (a0.2.2.2.1 ≤ a0.2.1)))], [(100, bx t33 a0), (101, bx t25 a1), (102, bx t25 a2)]⟩ (aC hb0 aN) ?_
  refine Run.cd (decide (a0.2.2.2.1 ≤ a0.2.1)) (fun hb => ?_) (fun hb => ?_)
  ·replace h := bif_t h hb
   refine qN [] 300 ⟨[(6, .d t4 false)], []⟩ aN ?_
   refine Run.rt ?_
   obtain rfl := sI h
   exact qR [(.d t4 false)]
  ·replace h := bif_f h hb
   refine Run.sk ?_
   show Run Pg 58 _ _ _
   refine qN [] 400 ⟨[(3, .ptr 100 0), (4, .ptr 101 0), (5, .ptr 102 0), (7, .ptr 402 0), (8, .ptr 403 0)], [(100, bx t33 a0), (101, bx t25 a1), (102, bx t25 a2), (402, bx t25 ((0 : Int), (1 : Int))), (403, bx t25 ((1 : Int), (1 : Int)))]⟩ aN ?_
   refine qN [] 500 ⟨[(3, .ptr 100 0), (4, .ptr 101 0), (5, .ptr 102 0), (7, .ptr 402 0), (8, .ptr 403 0), (9, .fn 40 .vnil (.vcons (.ptr 402 0) (.vcons (.ptr 403 0) .vnil)))], [(100, bx t33 a0), (101, bx t25 a1), (102, bx t25 a2), (402, bx t25 ((0 : Int), (1 : Int))), (403, bx t25 ((1 : Int), (1 : Int)))]⟩ aN ?_
   refine Run.sq ?_
   obtain ⟨y1, h_y1, h⟩ := bnd_elim h
   rcases bif_elim h with ⟨hb4, h⟩ | ⟨hb4, h⟩
   ·refine qN [(12, .callS [(1000000, bx t25 ((0 : Int), (1 : Int))), (1000001, bx t25 ((1 : Int), (1 : Int)))] [(.d t2 a1.1), (.d t2 (wrapI .i64 (a2.1 - a1.1))), (.d t2 a0.1), (.d t2 a0.2.2.1), (.ptr 1000000 0), (.ptr 1000001 0)] [(1000000, 402), (1000001, 403)] (.d t4 y1.1) [(1000000, bx t25 y1.2.1), (1000001, bx t25 y1.2.2)]), (14, .b true)] 600 ⟨[(7, .ptr 402 0), (8, .ptr 403 0), (54, .d t4 true)], [(402, bx t25 y1.2.1), (403, bx t25 y1.2.2)]⟩ (aC (show (([(.d t2 a1.1), (.d t2 (wrapI .i64 (a2.1 - a1.1))), (.d t2 a0.1), (.d t2 a0.2.2.1), (.ptr 402 0), (.ptr 403 0)] : List V) = List.map (V.ren (renL [(1000000, 402), (1000001, 403)] 612)) [(.d t2 a1.1), (.d t2 (wrapI .i64 (a2.1 - a1.1))), (.d t2 a0.1), (.d t2 a0.2.2.1), (.ptr 1000000 0), (.ptr 1000001 0)]) from (by kernel_rfl)) (aC (c40s0 h_y1) (aC (show ((some (bx t25 ((0 : Int), (1 : Int))) : Option E) = some (E.ren (renL [(1000000, 402), (1000001, 403)] 612) (bx t25 ((0 : Int), (1 : Int))))) from (by kernel_rfl)) (aC (show ((some (bx t25 ((1 : Int), (1 : Int))) : Option E) = some (E.ren (renL [(1000000, 402), (1000001, 403)] 612) (bx t25 ((1 : Int), (1 : Int))))) from (by kernel_rfl)) (aC hb4 aN))))) ?_
    refine Run.cd true (fun hb => ?_) (fun hb => (by cases hb))
    refine qN [] 700 ⟨[(6, .d t4 false)], []⟩ aN ?_
    refine Run.rt ?_
    obtain rfl := sI h
    exact qR [(.d t4 false)]
   ·obtain ⟨y2, h_y2, h⟩ := bnd_elim h
    refine qN [(12, .callS [(1000000, bx t25 ((0 : Int), (1 : Int))), (1000001, bx t25 ((1 : Int), (1 : Int)))] [(.d t2 a1.1), (.d t2 (wrapI .i64 (a2.1 - a1.1))), (.d t2 a0.1), (.d t2 a0.2.2.1), (.ptr 1000000 0), (.ptr 1000001 0)] [(1000000, 402), (1000001, 403)] (.d t4 y1.1) [(1000000, bx t25 y1.2.1), (1000001, bx t25 y1.2.2)]), (14, .b false), (27, .callS [(1000000, bx t25 y1.2.1), (1000001, bx t25 y1.2.2)] [(.d t2 a1.2), (.d t2 (wrapI .i64 (a2.2 - a1.2))), (.d t2 a0.2.1), (.d t2 a0.2.2.2.1), (.ptr 1000000 0), (.ptr 1000001 0)] [(1000000, 402), (1000001, 403)] (.d t4 y2.1) [(1000000, bx t25 y2.2.1), (1000001, bx t25 y2.2.2)])] 600 ⟨[(7, .ptr 402 0), (8, .ptr 403 0), (54, .d t4 (!y2.1))], [(402, bx t25 y2.2.1), (403, bx t25 y2.2.2)]⟩ (aC (show (([(.d t2 a1.1), (.d t2 (wrapI .i64 (a2.1 - a1.1))), (.d t2 a0.1), (.d t2 a0.2.2.1), (.ptr 402 0), (.ptr 403 0)] : List V) = List.map (V.ren (renL [(1000000, 402), (1000001, 403)] 612)) [(.d t2 a1.1), (.d t2 (wrapI .i64 (a2.1 - a1.1))), (.d t2 a0.1), (.d t2 a0.2.2.1), (.ptr 1000000 0), (.ptr 1000001 0)]) from (by kernel_rfl)) (aC (c40s0 h_y1) (aC (show ((some (bx t25 ((0 : Int), (1 : Int))) : Option E) = some (E.ren (renL [(1000000, 402), (1000001, 403)] 612) (bx t25 ((0 : Int), (1 : Int))))) from (by kernel_rfl)) (aC (show ((some (bx t25 ((1 : Int), (1 : Int))) : Option E) = some (E.ren (renL [(1000000, 402), (1000001, 403)] 612) (bx t25 ((1 : Int), (1 : Int))))) from (by kernel_rfl)) (aC hb4 (aC (show (([(.d t2 a1.2), (.d t2 (wrapI .i64 (a2.2 - a1.2))), (.d t2 a0.2.1), (.d t2 a0.2.2.2.1), (.ptr 402 0), (.ptr 403 0)] : List V) = List.map (V.ren (renL [(1000000, 402), (1000001, 403)] 627)) [(.d t2 a1.2), (.d t2 (wrapI .i64 (a2.2 - a1.2))), (.d t2 a0.2.1), (.d t2 a0.2.2.2.1), (.ptr 1000000 0), (.ptr 1000001 0)]) from (by kernel_rfl)) (aC (c40s0 h_y2) (aC (show ((some (bx t25 y1.2.1) : Option E) = some (E.ren (renL [(1000000, 402), (1000001, 403)] 627) (bx t25 y1.2.1))) from (by kernel_rfl)) (aC (show ((some (bx t25 y1.2.2) : Option E) = some (E.ren (renL [(1000000, 402), (1000001, 403)] 627) (bx t25 y1.2.2))) from (by kernel_rfl)) aN))))))))) ?_
    refine Run.cd (!y2.1) (fun hb => ?_) (fun hb => ?_)
    ·replace h := bif_t h hb
     refine qN [] 700 ⟨[(6, .d t4 false)], []⟩ aN ?_
     refine Run.rt ?_
     obtain rfl := sI h
     exact qR [(.d t4 false)]
    ·replace h := bif_f h hb
     refine Run.sk ?_
     show Run Pg 58 _ _ _
     obtain ⟨y3, h_y3, h⟩ := bnd_elim h
     refine qN [(2, .call (.d t4 y3))] 800 ⟨[(6, .d t4 y3)], []⟩ (aC (c43 h_y3) aN) ?_
     refine Run.rt ?_
     obtain rfl := sI h
     exact qR [(.d t4 y3)]

/-! ## f37 -/

noncomputable def c_37 : Code := body0 Go.Proofs.Tryz.f37

def fin37s0 (a1 : Int × Int) (a2 : Int × Int) (r : Bool) : Ex → St → Prop := endS X0 [.tmp 4] [4] (.d t4 r) [(1000000, bx t25 a1), (1000001, bx t25 a2)]

def F37s0 (a0 : Int × Int × Int × Int × Int) (a1 : Int × Int) (a2 : Int × Int) : Option (Bool) :=
 (F19 a0 a1 a2).bind fun y1 =>
 some y1

theorem c37s0 {a0 : Int × Int × Int × Int × Int} {a1 : Int × Int} {a2 : Int × Int} {r : Bool} (h : F37s0 a0 a1 a2 = some r) : CallSt Pg 37 [(.d t33 a0), (.ptr 1000000 0), (.ptr 1000001 0)] [(1000000, bx t25 a1), (1000001, bx t25 a2)] (.d t4 r) [(1000000, bx t25 a1), (1000001, bx t25 a2)] := by
 refine callStN hX c_37 9 [.tmp 4] [4] Go.Proofs.Tryz.func37 (by kernel_rfl) (by kernel_rfl) (by kernel_rfl) (Nat.le_of_ble_eq_true rfl) rfl ?_
 show Run Pg 9 c_37 ⟨[(0, .d t33 a0), (1, .ptr 1000000 0), (2, .ptr 1000001 0)], [(1000000, bx t25 a1), (1000001, bx t25 a2)]⟩ (fin37s0 a1 a2 r)
 unfold F37s0 at h
 refine qN [] 100 ⟨[(1, .ptr 1000000 0), (2, .ptr 1000001 0), (3, .ptr 100 0)], [(100, bx t33 a0), (1000000, bx t25 a1), (1000001, bx t25 a2)]⟩ aN ?_
 obtain ⟨y1, h_y1, h⟩ := bnd_elim h
 refine qN [(3, .call (.d t4 y1))] 200 ⟨[(4, .d t4 y1)], [(1000000, bx t25 a1), (1000001, bx t25 a2)]⟩ (aC (c19 h_y1) aN) ?_
 refine Run.rt ?_
 obtain rfl := sI h
 exact ⟨[(.d t4 y1)], ⟨[], [(1000000, bx t25 a1), (1000001, bx t25 a2)]⟩, by kernel_rfl, by kernel_rfl, by kernel_rfl, by kernel_rfl⟩

/-! ## f56 -/

def fin56s2 (a1 : Int × Int) (a2 : Int × Int) (r : Int × (Int × Int) × (Int × Int)) : Ex → St → Prop := endS X0 [.tmp 4] [3] (.d t2 r.1) [(1000000, bx t25 r.2.1), (1000001, bx t25 r.2.2)]

def f56s2_l0_post (a1 : Int × Int) (a2 : Int × Int) (x1 : List (Int × Int × Int × Int × Int)) (x2 : Int) (x4 : Int × Int) (x5 : Int × Int) : ((Unit) ⊕ (Int × (Int × Int) × (Int × Int))) → Ex → St → Prop
 | .inl o, x, s => x = .out 0 ∧ s = ⟨[], [(1000000, bx t25 x4), (1000001, bx t25 x5)]⟩
 | .inr o, x, s => x = .ret ∧ fin56s2 a1 a2 o x s

def f56s2_l0_b (x1 : List (Int × Int × Int × Int × Int)) (x2 : Int) (x4 : Int × Int) (x5 : Int × Int) (again : Int → Option ((Unit) ⊕ (Int × (Int × Int) × (Int × Int)))) : Int → Option ((Unit) ⊕ (Int × (Int × Int) × (Int × Int)))
 | x3 =>
 (bif (decide (x3 < x2)) then
 gd (0 ≤ x3) <|
 gd (x3 < ((List.length x1 : Nat) : Int)) <|
 (F37s0 (List.getD x1 (toN x3) ((0 : Int), (0 : Int), (0 : Int), (0 : Int), (0 : Int))) x4 x5).bind fun y7 =>
 (bif y7 then
 some (.inr (x3, x4, x5))
 else
 again (wrapI .i64 (x3 + (1 : Int))))
 else
 some (.inl ()))

def f56s2_l0 (x1 : List (Int × Int × Int × Int × Int)) (x2 : Int) (x4 : Int × Int) (x5 : Int × Int) : Nat → Int → Option ((Unit) ⊕ (Int × (Int × Int) × (Int × Int))) := loopF (f56s2_l0_b x1 x2 x4 x5)

theorem f56s2_l0_ok (a1 : Int × Int) (a2 : Int × Int) (x1 : List (Int × Int × Int × Int × Int)) (x2 : Int) (x4 : Int × Int) (x5 : Int × Int) (k : Nat) (x3 : Int) {out : ((Unit) ⊕ (Int × (Int × Int) × (Int × Int)))} (h : f56s2_l0 x1 x2 x4 x5 k x3 = some out) : Run Pg 19 (bk1 (sq2 (sq1 (sq2 c_56)))) ⟨[(0, .d t22 x1), (1, .fn 37 .vnil (.vcons (.ptr 1000000 0) (.vcons (.ptr 1000001 0) .vnil))), (7, .d t2 x2), (8, .d t2 x3)], [(1000000, bx t25 x4), (1000001, bx t25 x5)]⟩ (f56s2_l0_post a1 a2 x1 x2 x4 x5 out) := by
 refine Run.loopN (by kernel_rfl) (fun m s => ∃ x3, s = ⟨[(0, .d t22 x1), (1, .fn 37 .vnil (.vcons (.ptr 1000000 0) (.vcons (.ptr 1000001 0) .vnil))), (7, .d t2 x2), (8, .d t2 x3)], [(1000000, bx t25 x4), (1000001, bx t25 x5)]⟩ ∧ f56s2_l0 x1 x2 x4 x5 m x3 = some out) ?_ k ⟨x3,  rfl, h⟩
 rintro m s ⟨x3,  rfl, h⟩
 cases m with
 | zero => cases h
 | succ m =>
 replace h : f56s2_l0_b x1 x2 x4 x5 (f56s2_l0 x1 x2 x4 x5 m) x3 = some out := h
 unfold f56s2_l0_b at h
 refine qN [] 300 ⟨[(0, .d t22 x1), (1, .fn 37 .vnil (.vcons (.ptr 1000000 0) (.vcons (.ptr 1000001 0) .vnil))), (7, .d t2 x2), (8, .d t2 x3), (9, .d t4 (decide (x3 < x2)))], [(1000000, bx t25 x4), (1000001, bx t25 x5)]⟩ aN ?_
 refine Run.sq ?_
 refine Run.cd (decide (x3 < x2)) (fun hb => ?_) (fun hb => ?_)
 ·replace h := bif_t h hb
  refine Run.sk ?_
  show Run Pg 19 _ _ _
  refine Run.sq ?_
  refine Run.bl 1 ?_
  refine qN [] 400 ⟨[(0, .d t22 x1), (1, .fn 37 .vnil (.vcons (.ptr 1000000 0) (.vcons (.ptr 1000001 0) .vnil))), (5, .d t2 x3), (7, .d t2 x2), (8, .d t2 x3)], [(1000000, bx t25 x4), (1000001, bx t25 x5)]⟩ aN ?_
  obtain ⟨g_0, h⟩ := gd_elim h
  obtain ⟨g_1, h⟩ := gd_elim h
  obtain ⟨y7, h_y7, h⟩ := bnd_elim h
  refine qN [(5, .callS [(1000000, bx t25 x4), (1000001, bx t25 x5)] [(.d t33 (List.getD x1 (toN x3) ((0 : Int), (0 : Int), (0 : Int), (0 : Int), (0 : Int)))), (.ptr 1000000 0), (.ptr 1000001 0)] [(1000000, 1000000), (1000001, 1000001)] (.d t4 y7) [(1000000, bx t25 x4), (1000001, bx t25 x5)])] 500 ⟨[(0, .d t22 x1), (1, .fn 37 .vnil (.vcons (.ptr 1000000 0) (.vcons (.ptr 1000001 0) .vnil))), (5, .d t2 x3), (7, .d t2 x2), (8, .d t2 x3), (16, .d t4 y7)], [(1000000, bx t25 x4), (1000001, bx t25 x5)]⟩ (aC g_0 (aC g_1 (aC (show (([(.d t33 (List.getD x1 (toN x3) ((0 : Int), (0 : Int), (0 : Int), (0 : Int), (0 : Int)))), (.ptr 1000000 0), (.ptr 1000001 0)] : List V) = List.map (V.ren (renL [(1000000, 1000000), (1000001, 1000001)] 505)) [(.d t33 (List.getD x1 (toN x3) ((0 : Int), (0 : Int), (0 : Int), (0 : Int), (0 : Int)))), (.ptr 1000000 0), (.ptr 1000001 0)]) from (by kernel_rfl)) (aC (c37s0 h_y7) (aC (show ((some (bx t25 x4) : Option E) = some (E.ren (renL [(1000000, 1000000), (1000001, 1000001)] 505) (bx t25 x4))) from (by kernel_rfl)) (aC (show ((some (bx t25 x5) : Option E) = some (E.ren (renL [(1000000, 1000000), (1000001, 1000001)] 505) (bx t25 x5))) from (by kernel_rfl)) aN)))))) ?_
  refine Run.cd y7 (fun hb => ?_) (fun hb => ?_)
  ·replace h := bif_t h hb
   refine qN [] 600 ⟨[(4, .d t2 x3)], [(1000000, bx t25 x4), (1000001, bx t25 x5)]⟩ aN ?_
   refine Run.rt ?_
   obtain rfl := sI h
   exact ⟨rfl, [(.d t2 x3)], ⟨[], [(1000000, bx t25 x4), (1000001, bx t25 x5)]⟩, by kernel_rfl, by kernel_rfl, by kernel_rfl, by kernel_rfl⟩
  ·replace h := bif_f h hb
   refine Run.sk ?_
   show Run Pg 19 _ _ _
   refine qE [] 700 ⟨[(0, .d t22 x1), (1, .fn 37 .vnil (.vcons (.ptr 1000000 0) (.vcons (.ptr 1000001 0) .vnil))), (7, .d t2 x2), (8, .d t2 (wrapI .i64 (x3 + (1 : Int))))], [(1000000, bx t25 x4), (1000001, bx t25 x5)]⟩ aN ?_
   exact ⟨m, Nat.lt_succ_self m, _, rfl, h⟩
 ·replace h := bif_f h hb
  refine qK ⟨[], [(1000000, bx t25 x4), (1000001, bx t25 x5)]⟩ ?_
  refine Run.ex 0 ?_
  obtain rfl := sI h
  exact ⟨rfl, by kernel_rfl⟩

def F56s2 (a0 : List (Int × Int × Int × Int × Int)) (a1 : Int × Int) (a2 : Int × Int) : Option (Int × (Int × Int) × (Int × Int)) :=
 ((f56s2_l0 a0 (ofN (List.length a0)) a1 a2 (2 + List.length a0) (0 : Int)).bind fun o8 => match o8 with
 | .inl o9 =>
 some ((-1 : Int), a1, a2)
 | .inr o10 =>
 some o10)

theorem c56s2 {a0 : List (Int × Int × Int × Int × Int)} {a1 : Int × Int} {a2 : Int × Int} {r : Int × (Int × Int) × (Int × Int)} (h : F56s2 a0 a1 a2 = some r) : CallSt Pg 56 [(.d t22 a0), (.fn 37 .vnil (.vcons (.ptr 1000000 0) (.vcons (.ptr 1000001 0) .vnil)))] [(1000000, bx t25 a1), (1000001, bx t25 a2)] (.d t2 r.1) [(1000000, bx t25 r.2.1), (1000001, bx t25 r.2.2)] := by
 refine callStN hX c_56 19 [.tmp 4] [3] Go.Proofs.Tryz.func56 (by kernel_rfl) (by kernel_rfl) (by kernel_rfl) (Nat.le_of_ble_eq_true rfl) rfl ?_
 show Run Pg 19 c_56 ⟨[(0, .d t22 a0), (1, .fn 37 .vnil (.vcons (.ptr 1000000 0) (.vcons (.ptr 1000001 0) .vnil)))], [(1000000, bx t25 a1), (1000001, bx t25 a2)]⟩ (fin56s2 a1 a2 r)
 unfold F56s2 at h
 refine qN [] 100 ⟨[(0, .d t22 a0), (1, .fn 37 .vnil (.vcons (.ptr 1000000 0) (.vcons (.ptr 1000001 0) .vnil)))], [(1000000, bx t25 a1), (1000001, bx t25 a2)]⟩ aN ?_
 refine Run.sq ?_
 refine qN [] 200 ⟨[(0, .d t22 a0), (1, .fn 37 .vnil (.vcons (.ptr 1000000 0) (.vcons (.ptr 1000001 0) .vnil))), (7, .d t2 (ofN (List.length a0))), (8, .d t2 (0 : Int))], [(1000000, bx t25 a1), (1000001, bx t25 a2)]⟩ aN ?_
 refine Run.bl 0 ?_
 obtain ⟨o8, h_o8, h⟩ := bnd_elim h
 refine Run.mono (f56s2_l0_ok a1 a2 a0 (ofN (List.length a0)) a1 a2 _ (0 : Int) h_o8) ?_
 rcases o8 with o9 | o10
 ·rintro _ _ ⟨rfl, rfl⟩
  show Run Pg 19 _ _ _
  refine qN [] 800 ⟨[(4, .d t2 (-1 : Int))], [(1000000, bx t25 a1), (1000001, bx t25 a2)]⟩ aN ?_
  refine Run.rt ?_
  obtain rfl := sI h
  exact ⟨[(.d t2 (-1 : Int))], ⟨[], [(1000000, bx t25 a1), (1000001, bx t25 a2)]⟩, by kernel_rfl, by kernel_rfl, by kernel_rfl, by kernel_rfl⟩
 ·rintro _ s ⟨rfl, hr⟩
  obtain rfl := sI h
  exact hr

/-! ## f33 -/

def fin33s2 (a1 : Int × Int) (a2 : Int × Int) (r : Bool × (Int × Int) × (Int × Int)) : Ex → St → Prop := endS X0 [.tmp 4] [4] (.d t4 r.1) [(1000000, bx t25 r.2.1), (1000001, bx t25 r.2.2)]

def F33s2 (a0 : List (Int × Int × Int × Int × Int)) (a1 : Int × Int) (a2 : Int × Int) : Option (Bool × (Int × Int) × (Int × Int)) :=
 (F56s2 a0 a1 a2).bind fun y1 =>
 some ((decide ((0 : Int) ≤ y1.1)), y1.2.1, y1.2.2)

theorem c33s2 {a0 : List (Int × Int × Int × Int × Int)} {a1 : Int × Int} {a2 : Int × Int} {r : Bool × (Int × Int) × (Int × Int)} (h : F33s2 a0 a1 a2 = some r) : CallSt Pg 33 [(.d t22 a0), (.fn 37 .vnil (.vcons (.ptr 1000000 0) (.vcons (.ptr 1000001 0) .vnil)))] [(1000000, bx t25 a1), (1000001, bx t25 a2)] (.d t4 r.1) [(1000000, bx t25 r.2.1), (1000001, bx t25 r.2.2)] := by
 refine callStN hX c_33 9 [.tmp 4] [4] Go.Proofs.Tryz.func33 (by kernel_rfl) (by kernel_rfl) (by kernel_rfl) (Nat.le_of_ble_eq_true rfl) rfl ?_
 show Run Pg 9 c_33 ⟨[(0, .d t22 a0), (1, .fn 37 .vnil (.vcons (.ptr 1000000 0) (.vcons (.ptr 1000001 0) .vnil)))], [(1000000, bx t25 a1), (1000001, bx t25 a2)]⟩ (fin33s2 a1 a2 r)
 unfold F33s2 at h
 refine qN [] 100 ⟨[(0, .d t22 a0), (1, .fn 37 .vnil (.vcons (.ptr 1000000 0) (.vcons (.ptr 1000001 0) .vnil)))], [(1000000, bx t25 a1), (1000001, bx t25 a2)]⟩ aN ?_
 obtain ⟨y1, h_y1, h⟩ := bnd_elim h
 refine qN [(2, .callS [(1000000, bx t25 a1), (1000001, bx t25 a2)] [(.d t22 a0), (.fn 37 .vnil (.vcons (.ptr 1000000 0) (.vcons (.ptr 1000001 0) .vnil)))] [(1000000, 1000000), (1000001, 1000001)] (.d t2 y1.1) [(1000000, bx t25 y1.2.1), (1000001, bx t25 y1.2.2)])] 200 ⟨[(4, .d t4 (decide ((0 : Int) ≤ y1.1)))], [(1000000, bx t25 y1.2.1), (1000001, bx t25 y1.2.2)]⟩ (aC (show (([(.d t22 a0), (.fn 37 .vnil (.vcons (.ptr 1000000 0) (.vcons (.ptr 1000001 0) .vnil)))] : List V) = List.map (V.ren (renL [(1000000, 1000000), (1000001, 1000001)] 202)) [(.d t22 a0), (.fn 37 .vnil (.vcons (.ptr 1000000 0) (.vcons (.ptr 1000001 0) .vnil)))]) from (by kernel_rfl)) (aC (c56s2 h_y1) (aC (show ((some (bx t25 a1) : Option E) = some (E.ren (renL [(1000000, 1000000), (1000001, 1000001)] 202) (bx t25 a1))) from (by kernel_rfl)) (aC (show ((some (bx t25 a2) : Option E) = some (E.ren (renL [(1000000, 1000000), (1000001, 1000001)] 202) (bx t25 a2))) from (by kernel_rfl)) aN)))) ?_
 refine Run.rt ?_
 obtain rfl := sI h
 exact ⟨[(.d t4 (decide ((0 : Int) ≤ y1.1)))], ⟨[], [(1000000, bx t25 y1.2.1), (1000001, bx t25 y1.2.2)]⟩, by kernel_rfl, by kernel_rfl, by kernel_rfl, by kernel_rfl⟩

/-! ## f36 -/

noncomputable def c_36 : Code := body0 Go.Proofs.Tryz.f36

def fin36s0 (a2 : List (Int × Int × Int × Int × Int)) (r : Bool) : Ex → St → Prop := endS X0 [.tmp 5] [4] (.d t4 r) [(1000000, bx t22 a2)]

def F36s0 (a0 : Int × Int) (a1 : Int × Int) (a2 : List (Int × Int × Int × Int × Int)) : Option (Bool) :=
 (F33s2 a2 a0 a1).bind fun y1 =>
 some (!y1.1)

theorem c36s0 {a0 : Int × Int} {a1 : Int × Int} {a2 : List (Int × Int × Int × Int × Int)} {r : Bool} (h : F36s0 a0 a1 a2 = some r) : CallSt Pg 36 [(.d t25 a0), (.d t25 a1), (.ptr 1000000 0)] [(1000000, bx t22 a2)] (.d t4 r) [(1000000, bx t22 a2)] := by
 refine callStN hX c_36 10 [.tmp 5] [4] Go.Proofs.Tryz.func36 (by kernel_rfl) (by kernel_rfl) (by kernel_rfl) (Nat.le_of_ble_eq_true rfl) rfl ?_
 show Run Pg 10 c_36 ⟨[(0, .d t25 a0), (1, .d t25 a1), (2, .ptr 1000000 0)], [(1000000, bx t22 a2)]⟩ (fin36s0 a2 r)
 unfold F36s0 at h
 refine qN [] 100 ⟨[(2, .ptr 1000000 0), (3, .ptr 100 0), (4, .ptr 101 0)], [(100, bx t25 a0), (101, bx t25 a1), (1000000, bx t22 a2)]⟩ aN ?_
 obtain ⟨y1, h_y1, h⟩ := bnd_elim h
 refine qN [(2, .callS [(1000000, bx t25 a0), (1000001, bx t25 a1)] [(.d t22 a2), (.fn 37 .vnil (.vcons (.ptr 1000000 0) (.vcons (.ptr 1000001 0) .vnil)))] [(1000000, 100), (1000001, 101)] (.d t4 y1.1) [(1000000, bx t25 y1.2.1), (1000001, bx t25 y1.2.2)])] 200 ⟨[(5, .d t4 (!y1.1))], [(1000000, bx t22 a2)]⟩ (aC (show (([(.d t22 a2), (.fn 37 .vnil (.vcons (.ptr 100 0) (.vcons (.ptr 101 0) .vnil)))] : List V) = List.map (V.ren (renL [(1000000, 100), (1000001, 101)] 202)) [(.d t22 a2), (.fn 37 .vnil (.vcons (.ptr 1000000 0) (.vcons (.ptr 1000001 0) .vnil)))]) from (by kernel_rfl)) (aC (c33s2 h_y1) (aC (show ((some (bx t25 a0) : Option E) = some (E.ren (renL [(1000000, 100), (1000001, 101)] 202) (bx t25 a0))) from (by kernel_rfl)) (aC (show ((some (bx t25 a1) : Option E) = some (E.ren (renL [(1000000, 100), (1000001, 101)] 202) (bx t25 a1))) from (by kernel_rfl)) aN)))) ?_
 refine Run.rt ?_
 obtain rfl := sI h
 exact ⟨[(.d t4 (!y1.1))], ⟨[], [(1000000, bx t22 a2)]⟩, by kernel_rfl, by kernel_rfl, by kernel_rfl, by kernel_rfl⟩

/-! ## f39 -/

noncomputable def c_39 : Code := body0 Go.Proofs.Tryz.f39

def fin39 (r : Int) : Ex → St → Prop := endK X0 [.tmp 4] [2] (.d t2 r)

def F39 (a0 : Int × Int) (a1 : Int × Int) : Option (Int) :=
 some (max2i (max2i (max2i (wrapI .i64 (a0.1 - a1.1)) (wrapI .i64 (a1.1 - a0.1))) (wrapI .i64 (a0.2 - a1.2))) (wrapI .i64 (a1.2 - a0.2)))

theorem c39 {a0 : Int × Int} {a1 : Int × Int} {r : Int} (h : F39 a0 a1 = some r) : CallPure Pg 39 [(.d t25 a0), (.d t25 a1)] (.d t2 r) := by
 refine qC c_39 26 [.tmp 4] [2] Go.Proofs.Tryz.func39 ?_
 show Run Pg 26 c_39 ⟨[(0, .d t25 a0), (1, .d t25 a1)], []⟩ (fin39 r)
 unfold F39 at h
 refine qN [] 100 ⟨[(2, .ptr 100 0), (3, .ptr 101 0)], [(100, bx t25 a0), (101, bx t25 a1)]⟩ aN ?_
 refine qN [] 200 ⟨[(4, .d t2 (max2i (max2i (max2i (wrapI .i64 (a0.1 - a1.1)) (wrapI .i64 (a1.1 - a0.1))) (wrapI .i64 (a0.2 - a1.2))) (wrapI .i64 (a1.2 - a0.2))))], []⟩ aN ?_
 refine Run.rt ?_
 obtain rfl := sI h
 exact qR [(.d t2 (max2i (max2i (max2i (wrapI .i64 (a0.1 - a1.1)) (wrapI .i64 (a1.1 - a0.1))) (wrapI .i64 (a0.2 - a1.2))) (wrapI .i64 (a1.2 - a0.2))))]

/-! ## f57 -/

noncomputable def c_57 : Code := body0 Go.Proofs.Tryz.f57

def fin57s0 (a0 : List (Int × Int)) (r : (List (Int × Int))) : Ex → St → Prop := endS X0 [] [] (.tup .vnil) [(1000000, .vec 26 t25 r)]

def f57s0_l0_post  : ((List (Int × Int))) → Ex → St → Prop
 | o, x, s => x = .out 0 ∧ s = ⟨[], [(1000000, .vec 26 t25 o)]⟩

def f57s0_l0_b  (again : Int × Int × (List (Int × Int)) → Option ((List (Int × Int)))) : Int × Int × (List (Int × Int)) → Option ((List (Int × Int)))
 | (x1, x2, x3) =>
 (bif (decide (x1 < x2)) then
 gd (0 ≤ x2) <|
 gd (x2 < ((List.length x3 : Nat) : Int)) <|
 gd ((toN x2) < List.length x3) <|
 gd (0 ≤ x1) <|
 gd (x1 < ((List.length x3 : Nat) : Int)) <|
 gd ((toN x1) < List.length x3) <|
 gd (0 ≤ x1) <|
 gd (x1 < ((List.length x3 : Nat) : Int)) <|
 gd ((toN x1) < List.length x3) <|
 gd (0 ≤ x2) <|
 gd (x2 < ((List.length (List.set x3 (toN x1) (List.getD x3 (toN x2) ((0 : Int), (0 : Int)))) : Nat) : Int)) <|
 gd ((toN x2) < List.length (List.set x3 (toN x1) (List.getD x3 (toN x2) ((0 : Int), (0 : Int))))) <|
 again ((wrapI .i64 (x1 + (1 : Int))), (wrapI .i64 (x2 - (1 : Int))), (List.set (List.set x3 (toN x1) (List.getD x3 (toN x2) ((0 : Int), (0 : Int)))) (toN x2) (List.getD x3 (toN x1) ((0 : Int), (0 : Int)))))
 else
 some x3)

def f57s0_l0  : Nat → Int × Int × (List (Int × Int)) → Option ((List (Int × Int))) := loopF (f57s0_l0_b )

theorem f57s0_l0_ok  (k : Nat) (x1 : Int) (x2 : Int) (x3 : List (Int × Int)) {out : ((List (Int × Int)))} (h : f57s0_l0  k (x1, x2, x3) = some out) : Run Pg 28 (bk1 (sq2 c_57)) ⟨[(0, .vec 1000000 t25), (2, .d t2 x1), (3, .d t2 x2)], [(1000000, .vec 26 t25 x3)]⟩ (f57s0_l0_post  out) := by
 refine Run.loopN (by kernel_rfl) (fun m s => ∃ x1 x2 x3, s = ⟨[(0, .vec 1000000 t25), (2, .d t2 x1), (3, .d t2 x2)], [(1000000, .vec 26 t25 x3)]⟩ ∧ f57s0_l0  m (x1, x2, x3) = some out) ?_ k ⟨x1, x2, x3,  rfl, h⟩
 rintro m s ⟨x1, x2, x3,  rfl, h⟩
 cases m with
 | zero => cases h
 | succ m =>
 replace h : f57s0_l0_b  (f57s0_l0  m) (x1, x2, x3) = some out := h
 unfold f57s0_l0_b at h
 refine Run.sq ?_
 refine qN [] 200 ⟨[(0, .vec 1000000 t25), (2, .d t2 x1), (3, .d t2 x2), (9, .d t4 (decide (x1 < x2)))], [(1000000, .vec 26 t25 x3)]⟩ aN ?_
 refine Run.cd (decide (x1 < x2)) (fun hb => ?_) (fun hb => ?_)
 ·replace h := bif_t h hb
  refine Run.sk ?_
  show Run Pg 28 _ _ _
  refine Run.sq ?_
  refine Run.bl 1 ?_
  obtain ⟨g_0, h⟩ := gd_elim h
  obtain ⟨g_1, h⟩ := gd_elim h
  obtain ⟨g_2, h⟩ := gd_elim h
  obtain ⟨g_3, h⟩ := gd_elim h
  obtain ⟨g_4, h⟩ := gd_elim h
  obtain ⟨g_5, h⟩ := gd_elim h
  obtain ⟨g_6, h⟩ := gd_elim h
  obtain ⟨g_7, h⟩ := gd_elim h
  obtain ⟨g_8, h⟩ := gd_elim h
  obtain ⟨g_9, h⟩ := gd_elim h
  obtain ⟨g_10, h⟩ := gd_elim h
  obtain ⟨g_11, h⟩ := gd_elim h
  refine qE [] 400 ⟨[(0, .vec 1000000 t25), (2, .d t2 x1), (3, .d t2 x2)], [(1000000, .vec 26 t25 (List.set (List.set x3 (toN x1) (List.getD x3 (toN x2) ((0 : Int), (0 : Int)))) (toN x2) (List.getD x3 (toN x1) ((0 : Int), (0 : Int)))))]⟩ (aC g_0 (aC g_1 (aC g_2 (aC g_3 (aC g_4 (aC g_5 (aC g_6 (aC g_7 (aC g_8 (aC g_9 (aC g_10 (aC g_11 aN)))))))))))) ?_
  show Run Pg 28 _ _ _
  refine qE [] 300 ⟨[(0, .vec 1000000 t25), (2, .d t2 (wrapI .i64 (x1 + (1 : Int)))), (3, .d t2 (wrapI .i64 (x2 - (1 : Int))))], [(1000000, .vec 26 t25 (List.set (List.set x3 (toN x1) (List.getD x3 (toN x2) ((0 : Int), (0 : Int)))) (toN x2) (List.getD x3 (toN x1) ((0 : Int), (0 : Int)))))]⟩ aN ?_
  exact ⟨m, Nat.lt_succ_self m, _, _, _, rfl, h⟩
 ·replace h := bif_f h hb
  refine qK ⟨[], [(1000000, .vec 26 t25 x3)]⟩ ?_
  refine Run.ex 0 ?_
  obtain rfl := sI h
  exact ⟨rfl, by kernel_rfl⟩

def F57s0 (a0 : List (Int × Int)) : Option ((List (Int × Int))) :=
 ((f57s0_l0  (2 + List.length a0) ((0 : Int), (wrapI .i64 ((ofN (List.length a0)) - (1 : Int))), a0)).bind fun o4 =>
 some o4)

theorem c57s0 {a0 : List (Int × Int)} {r : (List (Int × Int))} (h : F57s0 a0 = some r) : CallSt Pg 57 [(.vec 1000000 t25)] [(1000000, .vec 26 t25 a0)] (.tup .vnil) [(1000000, .vec 26 t25 r)] := by
 refine callStN hX c_57 28 [] [] Go.Proofs.Tryz.func57 (by kernel_rfl) (by kernel_rfl) (by kernel_rfl) (Nat.le_of_ble_eq_true rfl) rfl ?_
 show Run Pg 28 c_57 ⟨[(0, .vec 1000000 t25)], [(1000000, .vec 26 t25 a0)]⟩ (fin57s0 a0 r)
 unfold F57s0 at h
 refine qN [] 100 ⟨[(0, .vec 1000000 t25), (2, .d t2 (0 : Int)), (3, .d t2 (wrapI .i64 ((ofN (List.length a0)) - (1 : Int))))], [(1000000, .vec 26 t25 a0)]⟩ aN ?_
 refine Run.bl 0 ?_
 obtain ⟨o4, h_o4, h⟩ := bnd_elim h
 refine Run.mono (f57s0_l0_ok  _ (0 : Int) (wrapI .i64 ((ofN (List.length a0)) - (1 : Int))) a0 h_o4) ?_
 rintro _ _ ⟨rfl, rfl⟩
 obtain rfl := sI h
 exact ⟨[], ⟨[], [(1000000, .vec 26 t25 o4)]⟩, by kernel_rfl, by kernel_rfl, by kernel_rfl, by kernel_rfl⟩

/-! ## f38 -/

noncomputable def c_38 : Code := body0 Go.Proofs.Tryz.f38

def fin38s0 (a1 : List (Int × Int × Int × Int × Int)) (r : (List (Int × Int)) × (List (Int × Int × Int × Int × Int))) : Ex → St → Prop := endS X0 [.tmp 4] [99999] (nilOr t25 r.1) [(1000000, bx t22 r.2)]

def f38s0_l0_post (x1 : List (Int × Int)) (x2 : Int) (x5 : List Bool) (x6 : List (Int × Int × Int × Int × Int)) : ((List Int)) → Ex → St → Prop
 | o, x, s => x = .out 0 ∧ s = ⟨[(0, .d t47 x1), (1, .fn 36 .vnil (.vcons (.ptr 1000000 0) .vnil)), (5, .vec 202 t2), (6, .vec 302 t2), (7, .vec 402 t4)], [(202, .vec 2 t2 o), (302, .vec 3 t2 o), (402, .vec 4 t4 x5), (1000000, bx t22 x6)]⟩

def f38s0_l0_b (x2 : Int) (again : Int × (List Int) → Option ((List Int))) : Int × (List Int) → Option ((List Int))
 | (x3, x4) =>
 (bif (decide (x3 < x2)) then
 gd (0 ≤ x3) <|
 gd (x3 < ((List.length x4 : Nat) : Int)) <|
 gd ((toN x3) < List.length x4) <|
 gd (0 ≤ x3) <|
 gd (x3 < ((List.length x4 : Nat) : Int)) <|
 gd ((toN x3) < List.length x4) <|
 again ((wrapI .i64 (x3 + (1 : Int))), (List.set x4 (toN x3) (-1 : Int)))
 else
 some x4)

def f38s0_l0 (x2 : Int) : Nat → Int × (List Int) → Option ((List Int)) := loopF (f38s0_l0_b x2)

theorem f38s0_l0_ok (x1 : List (Int × Int)) (x2 : Int) (x5 : List Bool) (x6 : List (Int × Int × Int × Int × Int)) (k : Nat) (x3 : Int) (x4 : List Int) {out : ((List Int))} (h : f38s0_l0 x2 k (x3, x4) = some out) : Run Pg 177 (bk1 (sq2 (sq1 (sq2 (sq2 (sq2 (sq2 c_38))))))) ⟨[(0, .d t47 x1), (1, .fn 36 .vnil (.vcons (.ptr 1000000 0) .vnil)), (5, .vec 202 t2), (6, .vec 302 t2), (7, .vec 402 t4), (25, .d t2 x2), (26, .d t2 x3)], [(202, .vec 2 t2 x4), (302, .vec 3 t2 x4), (402, .vec 4 t4 x5), (1000000, bx t22 x6)]⟩ (f38s0_l0_post x1 x2 x5 x6 out) := by
 refine Run.loopN (by kernel_rfl) (fun m s => ∃ x3 x4, s = ⟨[(0, .d t47 x1), (1, .fn 36 .vnil (.vcons (.ptr 1000000 0) .vnil)), (5, .vec 202 t2), (6, .vec 302 t2), (7, .vec 402 t4), (25, .d t2 x2), (26, .d t2 x3)], [(202, .vec 2 t2 x4), (302, .vec 3 t2 x4), (402, .vec 4 t4 x5), (1000000, bx t22 x6)]⟩ ∧ f38s0_l0 x2 m (x3, x4) = some out) ?_ k ⟨x3, x4,  rfl, h⟩
 rintro m s ⟨x3, x4,  rfl, h⟩
 cases m with
 | zero => cases h
 | succ m =>
 replace h : f38s0_l0_b x2 (f38s0_l0 x2 m) (x3, x4) = some out := h
 unfold f38s0_l0_b at h
 refine qN [] 600 ⟨[(0, .d t47 x1), (1, .fn 36 .vnil (.vcons (.ptr 1000000 0) .vnil)), (5, .vec 202 t2), (6, .vec 302 t2), (7, .vec 402 t4), (25, .d t2 x2), (26, .d t2 x3), (27, .d t4 (decide (x3 < x2)))], [(202, .vec 2 t2 x4), (302, .vec 3 t2 x4), (402, .vec 4 t4 x5), (1000000, bx t22 x6)]⟩ aN ?_
 refine Run.sq ?_
 refine Run.cd (decide (x3 < x2)) (fun hb => ?_) (fun hb => ?_)
 ·replace h := bif_t h hb
  refine Run.sk ?_
  show Run Pg 177 _ _ _
  refine Run.sq ?_
  refine Run.bl 1 ?_
  refine qN [] 700 ⟨[(0, .d t47 x1), (1, .fn 36 .vnil (.vcons (.ptr 1000000 0) .vnil)), (5, .vec 202 t2), (6, .vec 302 t2), (7, .vec 402 t4), (8, .d t2 x3), (25, .d t2 x2), (26, .d t2 x3)], [(202, .vec 2 t2 x4), (302, .vec 3 t2 x4), (402, .vec 4 t4 x5), (1000000, bx t22 x6)]⟩ aN ?_
  obtain ⟨g_0, h⟩ := gd_elim h
  obtain ⟨g_1, h⟩ := gd_elim h
  obtain ⟨g_2, h⟩ := gd_elim h
  obtain ⟨g_3, h⟩ := gd_elim h
  obtain ⟨g_4, h⟩ := gd_elim h
  obtain ⟨g_5, h⟩ := gd_elim h
  refine qE [] 800 ⟨[(0, .d t47 x1), (1, .fn 36 .vnil (.vcons (.ptr 1000000 0) .vnil)), (5, .vec 202 t2), (6, .vec 302 t2), (7, .vec 402 t4), (25, .d t2 x2), (26, .d t2 x3)], [(202, .vec 2 t2 (List.set x4 (toN x3) (-1 : Int))), (302, .vec 3 t2 (List.set x4 (toN x3) (-1 : Int))), (402, .vec 4 t4 x5), (1000000, bx t22 x6)]⟩ (aC g_0 (aC g_1 (aC g_2 (aC g_3 (aC g_4 (aC g_5 aN)))))) ?_
  show Run Pg 177 _ _ _
  refine qE [] 900 ⟨[(0, .d t47 x1), (1, .fn 36 .vnil (.vcons (.ptr 1000000 0) .vnil)), (5, .vec 202 t2), (6, .vec 302 t2), (7, .vec 402 t4), (25, .d t2 x2), (26, .d t2 (wrapI .i64 (x3 + (1 : Int))))], [(202, .vec 2 t2 (List.set x4 (toN x3) (-1 : Int))), (302, .vec 3 t2 (List.set x4 (toN x3) (-1 : Int))), (402, .vec 4 t4 x5), (1000000, bx t22 x6)]⟩ aN ?_
  exact ⟨m, Nat.lt_succ_self m, _, _, rfl, h⟩
 ·replace h := bif_f h hb
  refine qK ⟨[(0, .d t47 x1), (1, .fn 36 .vnil (.vcons (.ptr 1000000 0) .vnil)), (5, .vec 202 t2), (6, .vec 302 t2), (7, .vec 402 t4)], [(202, .vec 2 t2 x4), (302, .vec 3 t2 x4), (402, .vec 4 t4 x5), (1000000, bx t22 x6)]⟩ ?_
  refine Run.ex 0 ?_
  obtain rfl := sI h
  exact ⟨rfl, by kernel_rfl⟩

def f38s0_c3_post (x115 : List (Int × Int)) (x116 : Int) (x117 : Int) (x118 : Int) (x119 : Bool) (x120 : List Int) (x121 : List Int) (x122 : List Bool) (x123 : List (Int × Int × Int × Int × Int)) : (Int) → Ex → St → Prop
 | o, x, s => x = .nrm ∧ s = ⟨[(0, .d t47 x115), (1, .fn 36 .vnil (.vcons (.ptr 1000000 0) .vnil)), (5, .vec 202 t2), (6, .vec 302 t2), (7, .vec 402 t4), (9, .d t2 o), (39, .d t2 x118), (40, .d t2 x117)], [(202, .vec 2 t2 x120), (302, .vec 3 t2 x121), (402, .vec 4 t4 x122), (1000000, bx t22 x123)]⟩

def f38s0_c3 (x116 : Int) (x117 : Int) (x119 : Bool) : Option (Int) :=
 (bif x119 then
 some x117
 else
 some x116)

theorem f38s0_c3_ok (x115 : List (Int × Int)) (x116 : Int) (x117 : Int) (x118 : Int) (x119 : Bool) (x120 : List Int) (x121 : List Int) (x122 : List Bool) (x123 : List (Int × Int × Int × Int × Int)) {out : (Int)} (h : f38s0_c3 x116 x117 x119 = some out) : Run Pg 177 (sq2 (sq2 (bk1 (sq1 (sq2 (sq2 (lp1 (bk1 (sq2 (sq1 (sq2 (bk1 (lp1 (bk1 (sq1 (sq2 (sq2 (sq2 (sq2 (sq2 (sq2 c_38))))))))))))))))))))) ⟨[(0, .d t47 x115), (1, .fn 36 .vnil (.vcons (.ptr 1000000 0) .vnil)), (5, .vec 202 t2), (6, .vec 302 t2), (7, .vec 402 t4), (9, .d t2 x116), (10, .d t2 x117), (39, .d t2 x118), (40, .d t2 x117), (69, .d t4 x119)], [(202, .vec 2 t2 x120), (302, .vec 3 t2 x121), (402, .vec 4 t4 x122), (1000000, bx t22 x123)]⟩ (f38s0_c3_post x115 x116 x117 x118 x119 x120 x121 x122 x123 out) := by
 unfold f38s0_c3 at h
 refine Run.cd x119 (fun hb => ?_) (fun hb => ?_)
 ·replace h := bif_t h hb
  refine qE [] 1600 ⟨[(0, .d t47 x115), (1, .fn 36 .vnil (.vcons (.ptr 1000000 0) .vnil)), (5, .vec 202 t2), (6, .vec 302 t2), (7, .vec 402 t4), (9, .d t2 x117), (39, .d t2 x118), (40, .d t2 x117)], [(202, .vec 2 t2 x120), (302, .vec 3 t2 x121), (402, .vec 4 t4 x122), (1000000, bx t22 x123)]⟩ aN ?_
  obtain rfl := sI h
  exact ⟨rfl, by kernel_rfl⟩
 ·replace h := bif_f h hb
  refine qK ⟨[(0, .d t47 x115), (1, .fn 36 .vnil (.vcons (.ptr 1000000 0) .vnil)), (5, .vec 202 t2), (6, .vec 302 t2), (7, .vec 402 t4), (9, .d t2 x116), (39, .d t2 x118), (40, .d t2 x117)], [(202, .vec 2 t2 x120), (302, .vec 3 t2 x121), (402, .vec 4 t4 x122), (1000000, bx t22 x123)]⟩ ?_
  refine Run.sk ?_
  obtain rfl := sI h
  exact ⟨rfl, by kernel_rfl⟩

def f38s0_l2_post (x97 : List (Int × Int)) (x99 : Int) (x101 : List Int) (x102 : List Int) (x103 : List Bool) (x104 : List (Int × Int × Int × Int × Int)) : (Int) → Ex → St → Prop
 | o, x, s => x = .out 4 ∧ s = ⟨[(0, .d t47 x97), (1, .fn 36 .vnil (.vcons (.ptr 1000000 0) .vnil)), (5, .vec 202 t2), (6, .vec 302 t2), (7, .vec 402 t4), (9, .d t2 o)], [(202, .vec 2 t2 x101), (302, .vec 3 t2 x102), (402, .vec 4 t4 x103), (1000000, bx t22 x104)]⟩

def f38s0_l2_b (x99 : Int) (x101 : List Int) (x103 : List Bool) (again : Int × Int → Option (Int)) : Int × Int → Option (Int)
 | (x98, x100) =>
 (bif (decide (x100 < x99)) then
 gd (0 ≤ x100) <|
 gd (x100 < ((List.length x103 : Nat) : Int)) <|
 gd ((toN x100) < List.length x103) <|
 (bif (!(List.getD x103 (toN x100) false)) then
 gd (0 ≤ x100) <|
 gd (x100 < ((List.length x101 : Nat) : Int)) <|
 gd ((toN x100) < List.length x101) <|
 (bif (decide ((0 : Int) ≤ (List.getD x101 (toN x100) (0 : Int)))) then
 (bif (decide (x98 < (0 : Int))) then
 again (x100, (wrapI .i64 (x100 + (1 : Int))))
 else
 gd (0 ≤ x100) <|
 gd (x100 < ((List.length x101 : Nat) : Int)) <|
 gd ((toN x100) < List.length x101) <|
 gd (0 ≤ x98) <|
 gd (x98 < ((List.length x101 : Nat) : Int)) <|
 gd ((toN x98) < List.length x101) <|
 ((f38s0_c3 x98 x100 (decide ((List.getD x101 (toN x100) (0 : Int)) < (List.getD x101 (toN x98) (0 : Int))))).bind fun o124 =>
 again (o124, (wrapI .i64 (x100 + (1 : Int))))))
 else
 again (x98, (wrapI .i64 (x100 + (1 : Int)))))
 else
 again (x98, (wrapI .i64 (x100 + (1 : Int)))))
 else
 some x98)

def f38s0_l2 (x99 : Int) (x101 : List Int) (x103 : List Bool) : Nat → Int × Int → Option (Int) := loopF (f38s0_l2_b x99 x101 x103)

theorem f38s0_l2_ok (x97 : List (Int × Int)) (x99 : Int) (x101 : List Int) (x102 : List Int) (x103 : List Bool) (x104 : List (Int × Int × Int × Int × Int)) (k : Nat) (x98 : Int) (x100 : Int) {out : (Int)} (h : f38s0_l2 x99 x101 x103 k (x98, x100) = some out) : Run Pg 177 (bk1 (sq2 (sq1 (sq2 (bk1 (lp1 (bk1 (sq1 (sq2 (sq2 (sq2 (sq2 (sq2 (sq2 c_38)))))))))))))) ⟨[(0, .d t47 x97), (1, .fn 36 .vnil (.vcons (.ptr 1000000 0) .vnil)), (5, .vec 202 t2), (6, .vec 302 t2), (7, .vec 402 t4), (9, .d t2 x98), (39, .d t2 x99), (40, .d t2 x100)], [(202, .vec 2 t2 x101), (302, .vec 3 t2 x102), (402, .vec 4 t4 x103), (1000000, bx t22 x104)]⟩ (f38s0_l2_post x97 x99 x101 x102 x103 x104 out) := by
 refine Run.loopN (by kernel_rfl) (fun m s => ∃ x98 x100, s = ⟨[(0, .d t47 x97), (1, .fn 36 .vnil (.vcons (.ptr 1000000 0) .vnil)), (5, .vec 202 t2), (6, .vec 302 t2), (7, .vec 402 t4), (9, .d t2 x98), (39, .d t2 x99), (40, .d t2 x100)], [(202, .vec 2 t2 x101), (302, .vec 3 t2 x102), (402, .vec 4 t4 x103), (1000000, bx t22 x104)]⟩ ∧ f38s0_l2 x99 x101 x103 m (x98, x100) = some out) ?_ k ⟨x98, x100,  rfl, h⟩
 rintro m s ⟨x98, x100,  rfl, h⟩
 cases m with
 | zero => cases h
 | succ m =>
 replace h : f38s0_l2_b x99 x101 x103 (f38s0_l2 x99 x101 x103 m) (x98, x100) = some out := h
 unfold f38s0_l2_b at h
 refine qN [] 1300 ⟨[(0, .d t47 x97), (1, .fn 36 .vnil (.vcons (.ptr 1000000 0) .vnil)), (5, .vec 202 t2), (6, .vec 302 t2), (7, .vec 402 t4), (9, .d t2 x98), (39, .d t2 x99), (40, .d t2 x100), (41, .d t4 (decide (x100 < x99)))], [(202, .vec 2 t2 x101), (302, .vec 3 t2 x102), (402, .vec 4 t4 x103), (1000000, bx t22 x104)]⟩ aN ?_
 refine Run.sq ?_
 refine Run.cd (decide (x100 < x99)) (fun hb => ?_) (fun hb => ?_)
 ·replace h := bif_t h hb
  refine Run.sk ?_
  show Run Pg 177 _ _ _
  refine Run.sq ?_
  refine Run.bl 5 ?_
  refine qN [] 1400 ⟨[(0, .d t47 x97), (1, .fn 36 .vnil (.vcons (.ptr 1000000 0) .vnil)), (5, .vec 202 t2), (6, .vec 302 t2), (7, .vec 402 t4), (9, .d t2 x98), (10, .d t2 x100), (39, .d t2 x99), (40, .d t2 x100)], [(202, .vec 2 t2 x101), (302, .vec 3 t2 x102), (402, .vec 4 t4 x103), (1000000, bx t22 x104)]⟩ aN ?_
  obtain ⟨g_0, h⟩ := gd_elim h
  obtain ⟨g_1, h⟩ := gd_elim h
  obtain ⟨g_2, h⟩ := gd_elim h
  rcases bif_elim h with ⟨hb3, h⟩ | ⟨hb3, h⟩
  ·obtain ⟨g_4, h⟩ := gd_elim h
   obtain ⟨g_5, h⟩ := gd_elim h
   obtain ⟨g_6, h⟩ := gd_elim h
   rcases bif_elim h with ⟨hb7, h⟩ | ⟨hb7, h⟩
   ·rcases bif_elim h with ⟨hb8, h⟩ | ⟨hb8, h⟩
    ·refine qN [(5, .b true), (12, .b true), (15, .b true)] 1500 ⟨[(0, .d t47 x97), (1, .fn 36 .vnil (.vcons (.ptr 1000000 0) .vnil)), (5, .vec 202 t2), (6, .vec 302 t2), (7, .vec 402 t4), (9, .d t2 x98), (10, .d t2 x100), (39, .d t2 x99), (40, .d t2 x100), (69, .d t4 true)], [(202, .vec 2 t2 x101), (302, .vec 3 t2 x102), (402, .vec 4 t4 x103), (1000000, bx t22 x104)]⟩ (aC g_0 (aC g_1 (aC g_2 (aC hb3 (aC g_4 (aC g_5 (aC g_6 (aC hb7 (aC hb8 aN))))))))) ?_
     refine Run.cd true (fun hb => ?_) (fun hb => (by cases hb))
     refine qE [] 1600 ⟨[(0, .d t47 x97), (1, .fn 36 .vnil (.vcons (.ptr 1000000 0) .vnil)), (5, .vec 202 t2), (6, .vec 302 t2), (7, .vec 402 t4), (9, .d t2 x100), (39, .d t2 x99), (40, .d t2 x100)], [(202, .vec 2 t2 x101), (302, .vec 3 t2 x102), (402, .vec 4 t4 x103), (1000000, bx t22 x104)]⟩ aN ?_
     show Run Pg 177 _ _ _
     refine qE [] 1700 ⟨[(0, .d t47 x97), (1, .fn 36 .vnil (.vcons (.ptr 1000000 0) .vnil)), (5, .vec 202 t2), (6, .vec 302 t2), (7, .vec 402 t4), (9, .d t2 x100), (39, .d t2 x99), (40, .d t2 (wrapI .i64 (x100 + (1 : Int))))], [(202, .vec 2 t2 x101), (302, .vec 3 t2 x102), (402, .vec 4 t4 x103), (1000000, bx t22 x104)]⟩ aN ?_
     exact ⟨m, Nat.lt_succ_self m, _, _, rfl, h⟩
    ·obtain ⟨g_9, h⟩ := gd_elim h
     obtain ⟨g_10, h⟩ := gd_elim h
     obtain ⟨g_11, h⟩ := gd_elim h
     obtain ⟨g_12, h⟩ := gd_elim h
     obtain ⟨g_13, h⟩ := gd_elim h
     obtain ⟨g_14, h⟩ := gd_elim h
     refine qN [(5, .b true), (12, .b true), (15, .b false)] 1500 ⟨[(0, .d t47 x97), (1, .fn 36 .vnil (.vcons (.ptr 1000000 0) .vnil)), (5, .vec 202 t2), (6, .vec 302 t2), (7, .vec 402 t4), (9, .d t2 x98), (10, .d t2 x100), (39, .d t2 x99), (40, .d t2 x100), (69, .d t4 (decide ((List.getD x101 (toN x100) (0 : Int)) < (List.getD x101 (toN x98) (0 : Int)))))], [(202, .vec 2 t2 x101), (302, .vec 3 t2 x102), (402, .vec 4 t4 x103), (1000000, bx t22 x104)]⟩ (aC g_0 (aC g_1 (aC g_2 (aC hb3 (aC g_4 (aC g_5 (aC g_6 (aC hb7 (aC hb8 (aC g_9 (aC g_10 (aC g_11 (aC g_12 (aC g_13 (aC g_14 aN))))))))))))))) ?_
     obtain ⟨o124, h_o124, h⟩ := bnd_elim h
     refine Run.mono (f38s0_c3_ok x97 x98 x100 x99 (decide ((List.getD x101 (toN x100) (0 : Int)) < (List.getD x101 (toN x98) (0 : Int)))) x101 x102 x103 x104 h_o124) ?_
     rintro _ _ ⟨rfl, rfl⟩
     show Run Pg 177 _ _ _
     refine qE [] 1700 ⟨[(0, .d t47 x97), (1, .fn 36 .vnil (.vcons (.ptr 1000000 0) .vnil)), (5, .vec 202 t2), (6, .vec 302 t2), (7, .vec 402 t4), (9, .d t2 o124), (39, .d t2 x99), (40, .d t2 (wrapI .i64 (x100 + (1 : Int))))], [(202, .vec 2 t2 x101), (302, .vec 3 t2 x102), (402, .vec 4 t4 x103), (1000000, bx t22 x104)]⟩ aN ?_
     exact ⟨m, Nat.lt_succ_self m, _, _, rfl, h⟩
   ·refine qN [(5, .b true), (12, .b false)] 1500 ⟨[(0, .d t47 x97), (1, .fn 36 .vnil (.vcons (.ptr 1000000 0) .vnil)), (5, .vec 202 t2), (6, .vec 302 t2), (7, .vec 402 t4), (9, .d t2 x98), (10, .d t2 x100), (39, .d t2 x99), (40, .d t2 x100), (69, .d t4 false)], [(202, .vec 2 t2 x101), (302, .vec 3 t2 x102), (402, .vec 4 t4 x103), (1000000, bx t22 x104)]⟩ (aC g_0 (aC g_1 (aC g_2 (aC hb3 (aC g_4 (aC g_5 (aC g_6 (aC hb7 aN)))))))) ?_
    refine Run.cd false (fun hb => (by cases hb)) (fun hb => ?_)
    refine Run.sk ?_
    show Run Pg 177 _ _ _
    refine qE [] 1700 ⟨[(0, .d t47 x97), (1, .fn 36 .vnil (.vcons (.ptr 1000000 0) .vnil)), (5, .vec 202 t2), (6, .vec 302 t2), (7, .vec 402 t4), (9, .d t2 x98), (39, .d t2 x99), (40, .d t2 (wrapI .i64 (x100 + (1 : Int))))], [(202, .vec 2 t2 x101), (302, .vec 3 t2 x102), (402, .vec 4 t4 x103), (1000000, bx t22 x104)]⟩ aN ?_
    exact ⟨m, Nat.lt_succ_self m, _, _, rfl, h⟩
  ·refine qN [(5, .b false)] 1500 ⟨[(0, .d t47 x97), (1, .fn 36 .vnil (.vcons (.ptr 1000000 0) .vnil)), (5, .vec 202 t2), (6, .vec 302 t2), (7, .vec 402 t4), (9, .d t2 x98), (10, .d t2 x100), (39, .d t2 x99), (40, .d t2 x100), (69, .d t4 false)], [(202, .vec 2 t2 x101), (302, .vec 3 t2 x102), (402, .vec 4 t4 x103), (1000000, bx t22 x104)]⟩ (aC g_0 (aC g_1 (aC g_2 (aC hb3 aN)))) ?_
   refine Run.cd false (fun hb => (by cases hb)) (fun hb => ?_)
   refine Run.sk ?_
   show Run Pg 177 _ _ _
   refine qE [] 1700 ⟨[(0, .d t47 x97), (1, .fn 36 .vnil (.vcons (.ptr 1000000 0) .vnil)), (5, .vec 202 t2), (6, .vec 302 t2), (7, .vec 402 t4), (9, .d t2 x98), (39, .d t2 x99), (40, .d t2 (wrapI .i64 (x100 + (1 : Int))))], [(202, .vec 2 t2 x101), (302, .vec 3 t2 x102), (402, .vec 4 t4 x103), (1000000, bx t22 x104)]⟩ aN ?_
   exact ⟨m, Nat.lt_succ_self m, _, _, rfl, h⟩
 ·replace h := bif_f h hb
  refine qK ⟨[(0, .d t47 x97), (1, .fn 36 .vnil (.vcons (.ptr 1000000 0) .vnil)), (5, .vec 202 t2), (6, .vec 302 t2), (7, .vec 402 t4), (9, .d t2 x98)], [(202, .vec 2 t2 x101), (302, .vec 3 t2 x102), (402, .vec 4 t4 x103), (1000000, bx t22 x104)]⟩ ?_
  refine Run.ex 4 ?_
  obtain rfl := sI h
  exact ⟨rfl, by kernel_rfl⟩

def f38s0_c5_post (x158 : List (Int × Int)) (x159 : Int) (x160 : Int) (x161 : Int) (x162 : Int) (x163 : Bool) (x164 : List Int) (x165 : List Int) (x166 : List Bool) (x167 : List (Int × Int × Int × Int × Int)) : ((List Int) × (List Int)) → Ex → St → Prop
 | o, x, s => x = .nrm ∧ s = ⟨[(0, .d t47 x158), (1, .fn 36 .vnil (.vcons (.ptr 1000000 0) .vnil)), (5, .vec 202 t2), (6, .vec 302 t2), (7, .vec 402 t4), (9, .d t2 x159), (83, .d t2 x162), (84, .d t2 x160)], [(202, .vec 2 t2 o.1), (302, .vec 3 t2 o.2), (402, .vec 4 t4 x166), (1000000, bx t22 x167)]⟩

def f38s0_c5 (x159 : Int) (x160 : Int) (x161 : Int) (x163 : Bool) (x164 : List Int) (x165 : List Int) : Option ((List Int) × (List Int)) :=
 (bif x163 then
 gd (0 ≤ x160) <|
 gd (x160 < ((List.length x164 : Nat) : Int)) <|
 gd ((toN x160) < List.length x164) <|
 gd (0 ≤ x160) <|
 gd (x160 < ((List.length x165 : Nat) : Int)) <|
 gd ((toN x160) < List.length x165) <|
 some ((List.set x164 (toN x160) x161), (List.set x165 (toN x160) x159))
 else
 some (x164, x165))

theorem f38s0_c5_ok (x158 : List (Int × Int)) (x159 : Int) (x160 : Int) (x161 : Int) (x162 : Int) (x163 : Bool) (x164 : List Int) (x165 : List Int) (x166 : List Bool) (x167 : List (Int × Int × Int × Int × Int)) {out : ((List Int) × (List Int))} (h : f38s0_c5 x159 x160 x161 x163 x164 x165 = some out) : Run Pg 177 (sq2 (sq2 (sq2 (bk1 (sq1 (sq2 (sq2 (lp1 (bk1 (sq2 (sq2 (sq2 (sq2 (sq2 (sq2 (bk1 (lp1 (bk1 (sq1 (sq2 (sq2 (sq2 (sq2 (sq2 (sq2 c_38))))))))))))))))))))))))) ⟨[(0, .d t47 x158), (1, .fn 36 .vnil (.vcons (.ptr 1000000 0) .vnil)), (5, .vec 202 t2), (6, .vec 302 t2), (7, .vec 402 t4), (9, .d t2 x159), (11, .d t2 x160), (12, .d t2 x161), (83, .d t2 x162), (84, .d t2 x160), (132, .d t4 x163)], [(202, .vec 2 t2 x164), (302, .vec 3 t2 x165), (402, .vec 4 t4 x166), (1000000, bx t22 x167)]⟩ (f38s0_c5_post x158 x159 x160 x161 x162 x163 x164 x165 x166 x167 out) := by
 unfold f38s0_c5 at h
 refine Run.cd x163 (fun hb => ?_) (fun hb => ?_)
 ·replace h := bif_t h hb
  obtain ⟨g_0, h⟩ := gd_elim h
  obtain ⟨g_1, h⟩ := gd_elim h
  obtain ⟨g_2, h⟩ := gd_elim h
  obtain ⟨g_3, h⟩ := gd_elim h
  obtain ⟨g_4, h⟩ := gd_elim h
  obtain ⟨g_5, h⟩ := gd_elim h
  refine qE [] 2700 ⟨[(0, .d t47 x158), (1, .fn 36 .vnil (.vcons (.ptr 1000000 0) .vnil)), (5, .vec 202 t2), (6, .vec 302 t2), (7, .vec 402 t4), (9, .d t2 x159), (83, .d t2 x162), (84, .d t2 x160)], [(202, .vec 2 t2 (List.set x164 (toN x160) x161)), (302, .vec 3 t2 (List.set x165 (toN x160) x159)), (402, .vec 4 t4 x166), (1000000, bx t22 x167)]⟩ (aC g_0 (aC g_1 (aC g_2 (aC g_3 (aC g_4 (aC g_5 aN)))))) ?_
  obtain rfl := sI h
  exact ⟨rfl, by kernel_rfl⟩
 ·replace h := bif_f h hb
  refine qK ⟨[(0, .d t47 x158), (1, .fn 36 .vnil (.vcons (.ptr 1000000 0) .vnil)), (5, .vec 202 t2), (6, .vec 302 t2), (7, .vec 402 t4), (9, .d t2 x159), (83, .d t2 x162), (84, .d t2 x160)], [(202, .vec 2 t2 x164), (302, .vec 3 t2 x165), (402, .vec 4 t4 x166), (1000000, bx t22 x167)]⟩ ?_
  refine Run.sk ?_
  obtain rfl := sI h
  exact ⟨rfl, by kernel_rfl⟩

def f38s0_c6_post (x169 : List (Int × Int)) (x170 : Int) (x171 : Int) (x172 : Int) (x173 : Int) (x174 : Bool) (x175 : List Int) (x176 : List Int) (x177 : List Bool) (x178 : List (Int × Int × Int × Int × Int)) : ((List Int) × (List Int)) → Ex → St → Prop
 | o, x, s => x = .nrm ∧ s = ⟨[(0, .d t47 x169), (1, .fn 36 .vnil (.vcons (.ptr 1000000 0) .vnil)), (5, .vec 202 t2), (6, .vec 302 t2), (7, .vec 402 t4), (9, .d t2 x170), (83, .d t2 x173), (84, .d t2 x171)], [(202, .vec 2 t2 o.1), (302, .vec 3 t2 o.2), (402, .vec 4 t4 x177), (1000000, bx t22 x178)]⟩

def f38s0_c6 (x170 : Int) (x171 : Int) (x172 : Int) (x174 : Bool) (x175 : List Int) (x176 : List Int) : Option ((List Int) × (List Int)) :=
 (bif x174 then
 gd (0 ≤ x171) <|
 gd (x171 < ((List.length x175 : Nat) : Int)) <|
 gd ((toN x171) < List.length x175) <|
 gd (0 ≤ x171) <|
 gd (x171 < ((List.length x176 : Nat) : Int)) <|
 gd ((toN x171) < List.length x176) <|
 some ((List.set x175 (toN x171) x172), (List.set x176 (toN x171) x170))
 else
 some (x175, x176))

theorem f38s0_c6_ok (x169 : List (Int × Int)) (x170 : Int) (x171 : Int) (x172 : Int) (x173 : Int) (x174 : Bool) (x175 : List Int) (x176 : List Int) (x177 : List Bool) (x178 : List (Int × Int × Int × Int × Int)) {out : ((List Int) × (List Int))} (h : f38s0_c6 x170 x171 x172 x174 x175 x176 = some out) : Run Pg 177 (sq2 (sq2 (sq2 (bk1 (sq1 (sq2 (sq2 (lp1 (bk1 (sq2 (sq2 (sq2 (sq2 (sq2 (sq2 (bk1 (lp1 (bk1 (sq1 (sq2 (sq2 (sq2 (sq2 (sq2 (sq2 c_38))))))))))))))))))))))))) ⟨[(0, .d t47 x169), (1, .fn 36 .vnil (.vcons (.ptr 1000000 0) .vnil)), (5, .vec 202 t2), (6, .vec 302 t2), (7, .vec 402 t4), (9, .d t2 x170), (11, .d t2 x171), (12, .d t2 x172), (83, .d t2 x173), (84, .d t2 x171), (132, .d t4 x174)], [(202, .vec 2 t2 x175), (302, .vec 3 t2 x176), (402, .vec 4 t4 x177), (1000000, bx t22 x178)]⟩ (f38s0_c6_post x169 x170 x171 x172 x173 x174 x175 x176 x177 x178 out) := by
 unfold f38s0_c6 at h
 refine Run.cd x174 (fun hb => ?_) (fun hb => ?_)
 ·replace h := bif_t h hb
  obtain ⟨g_0, h⟩ := gd_elim h
  obtain ⟨g_1, h⟩ := gd_elim h
  obtain ⟨g_2, h⟩ := gd_elim h
  obtain ⟨g_3, h⟩ := gd_elim h
  obtain ⟨g_4, h⟩ := gd_elim h
  obtain ⟨g_5, h⟩ := gd_elim h
  refine qE [] 2700 ⟨[(0, .d t47 x169), (1, .fn 36 .vnil (.vcons (.ptr 1000000 0) .vnil)), (5, .vec 202 t2), (6, .vec 302 t2), (7, .vec 402 t4), (9, .d t2 x170), (83, .d t2 x173), (84, .d t2 x171)], [(202, .vec 2 t2 (List.set x175 (toN x171) x172)), (302, .vec 3 t2 (List.set x176 (toN x171) x170)), (402, .vec 4 t4 x177), (1000000, bx t22 x178)]⟩ (aC g_0 (aC g_1 (aC g_2 (aC g_3 (aC g_4 (aC g_5 aN)))))) ?_
  obtain rfl := sI h
  exact ⟨rfl, by kernel_rfl⟩
 ·replace h := bif_f h hb
  refine qK ⟨[(0, .d t47 x169), (1, .fn 36 .vnil (.vcons (.ptr 1000000 0) .vnil)), (5, .vec 202 t2), (6, .vec 302 t2), (7, .vec 402 t4), (9, .d t2 x170), (83, .d t2 x173), (84, .d t2 x171)], [(202, .vec 2 t2 x175), (302, .vec 3 t2 x176), (402, .vec 4 t4 x177), (1000000, bx t22 x178)]⟩ ?_
  refine Run.sk ?_
  obtain rfl := sI h
  exact ⟨rfl, by kernel_rfl⟩

def f38s0_l4_post (x126 : List (Int × Int)) (x127 : Int) (x128 : Int) (x132 : List Bool) (x133 : List (Int × Int × Int × Int × Int)) : ((List Int) × (List Int)) → Ex → St → Prop
 | o, x, s => x = .out 6 ∧ s = ⟨[(0, .d t47 x126), (1, .fn 36 .vnil (.vcons (.ptr 1000000 0) .vnil)), (5, .vec 202 t2), (6, .vec 302 t2), (7, .vec 402 t4)], [(202, .vec 2 t2 o.1), (302, .vec 3 t2 o.2), (402, .vec 4 t4 x132), (1000000, bx t22 x133)]⟩

def f38s0_l4_b (x126 : List (Int × Int)) (x127 : Int) (x128 : Int) (x132 : List Bool) (x133 : List (Int × Int × Int × Int × Int)) (again : Int × (List Int) × (List Int) → Option ((List Int) × (List Int))) : Int × (List Int) × (List Int) → Option ((List Int) × (List Int))
 | (x129, x130, x131) =>
 (bif (decide (x129 < x128)) then
 gd (0 ≤ x127) <|
 gd (x127 < ((List.length x130 : Nat) : Int)) <|
 gd ((toN x127) < List.length x130) <|
 gd (0 ≤ x127) <|
 gd (x127 < ((List.length x126 : Nat) : Int)) <|
 gd (0 ≤ x129) <|
 gd (x129 < ((List.length x126 : Nat) : Int)) <|
 (F39 (List.getD x126 (toN x127) ((0 : Int), (0 : Int))) (List.getD x126 (toN x129) ((0 : Int), (0 : Int)))).bind fun y157 =>
 gd (0 ≤ x129) <|
 gd (x129 < ((List.length x132 : Nat) : Int)) <|
 gd ((toN x129) < List.length x132) <|
 (bif (!(List.getD x132 (toN x129) false)) then
 gd (0 ≤ x129) <|
 gd (x129 < ((List.length x130 : Nat) : Int)) <|
 gd ((toN x129) < List.length x130) <|
 (bif (decide ((List.getD x130 (toN x129) (0 : Int)) < (0 : Int))) then
 gd (0 ≤ x127) <|
 gd (x127 < ((List.length x126 : Nat) : Int)) <|
 gd (0 ≤ x129) <|
 gd (x129 < ((List.length x126 : Nat) : Int)) <|
 (F36s0 (List.getD x126 (toN x127) ((0 : Int), (0 : Int))) (List.getD x126 (toN x129) ((0 : Int), (0 : Int))) x133).bind fun y158 =>
 ((f38s0_c5 x127 x129 (wrapI .i64 ((List.getD x130 (toN x127) (0 : Int)) + y157)) y158 x130 x131).bind fun o168 =>
 again ((wrapI .i64 (x129 + (1 : Int))), o168.1, o168.2))
 else
 gd (0 ≤ x129) <|
 gd (x129 < ((List.length x130 : Nat) : Int)) <|
 gd ((toN x129) < List.length x130) <|
 (bif (decide ((wrapI .i64 ((List.getD x130 (toN x127) (0 : Int)) + y157)) < (List.getD x130 (toN x129) (0 : Int)))) then
 gd (0 ≤ x127) <|
 gd (x127 < ((List.length x126 : Nat) : Int)) <|
 gd (0 ≤ x129) <|
 gd (x129 < ((List.length x126 : Nat) : Int)) <|
 (F36s0 (List.getD x126 (toN x127) ((0 : Int), (0 : Int))) (List.getD x126 (toN x129) ((0 : Int), (0 : Int))) x133).bind fun y158 =>
 ((f38s0_c6 x127 x129 (wrapI .i64 ((List.getD x130 (toN x127) (0 : Int)) + y157)) y158 x130 x131).bind fun o179 =>
 again ((wrapI .i64 (x129 + (1 : Int))), o179.1, o179.2))
 else
 again ((wrapI .i64 (x129 + (1 : Int))), x130, x131)))
 else
 again ((wrapI .i64 (x129 + (1 : Int))), x130, x131))
 else
 some (x130, x131))

def f38s0_l4 (x126 : List (Int × Int)) (x127 : Int) (x128 : Int) (x132 : List Bool) (x133 : List (Int × Int × Int × Int × Int)) : Nat → Int × (List Int) × (List Int) → Option ((List Int) × (List Int)) := loopF (f38s0_l4_b x126 x127 x128 x132 x133)

theorem f38s0_l4_ok (x126 : List (Int × Int)) (x127 : Int) (x128 : Int) (x132 : List Bool) (x133 : List (Int × Int × Int × Int × Int)) (k : Nat) (x129 : Int) (x130 : List Int) (x131 : List Int) {out : ((List Int) × (List Int))} (h : f38s0_l4 x126 x127 x128 x132 x133 k (x129, x130, x131) = some out) : Run Pg 177 (bk1 (sq2 (sq2 (sq2 (sq2 (sq2 (sq2 (bk1 (lp1 (bk1 (sq1 (sq2 (sq2 (sq2 (sq2 (sq2 (sq2 c_38))))))))))))))))) ⟨[(0, .d t47 x126), (1, .fn 36 .vnil (.vcons (.ptr 1000000 0) .vnil)), (5, .vec 202 t2), (6, .vec 302 t2), (7, .vec 402 t4), (9, .d t2 x127), (83, .d t2 x128), (84, .d t2 x129)], [(202, .vec 2 t2 x130), (302, .vec 3 t2 x131), (402, .vec 4 t4 x132), (1000000, bx t22 x133)]⟩ (f38s0_l4_post x126 x127 x128 x132 x133 out) := by
 refine Run.loopN (by kernel_rfl) (fun m s => ∃ x129 x130 x131, s = ⟨[(0, .d t47 x126), (1, .fn 36 .vnil (.vcons (.ptr 1000000 0) .vnil)), (5, .vec 202 t2), (6, .vec 302 t2), (7, .vec 402 t4), (9, .d t2 x127), (83, .d t2 x128), (84, .d t2 x129)], [(202, .vec 2 t2 x130), (302, .vec 3 t2 x131), (402, .vec 4 t4 x132), (1000000, bx t22 x133)]⟩ ∧ f38s0_l4 x126 x127 x128 x132 x133 m (x129, x130, x131) = some out) ?_ k ⟨x129, x130, x131,  rfl, h⟩
 rintro m s ⟨x129, x130, x131,  rfl, h⟩
 cases m with
 | zero => cases h
 | succ m =>
 replace h : f38s0_l4_b x126 x127 x128 x132 x133 (f38s0_l4 x126 x127 x128 x132 x133 m) (x129, x130, x131) = some out := h
 unfold f38s0_l4_b at h
 refine qN [] 2300 ⟨[(0, .d t47 x126), (1, .fn 36 .vnil (.vcons (.ptr 1000000 0) .vnil)), (5, .vec 202 t2), (6, .vec 302 t2), (7, .vec 402 t4), (9, .d t2 x127), (83, .d t2 x128), (84, .d t2 x129), (85, .d t4 (decide (x129 < x128)))], [(202, .vec 2 t2 x130), (302, .vec 3 t2 x131), (402, .vec 4 t4 x132), (1000000, bx t22 x133)]⟩ aN ?_
 refine Run.sq ?_
 refine Run.cd (decide (x129 < x128)) (fun hb => ?_) (fun hb => ?_)
 ·replace h := bif_t h hb
  refine Run.sk ?_
  show Run Pg 177 _ _ _
  refine Run.sq ?_
  refine Run.bl 7 ?_
  refine qN [] 2400 ⟨[(0, .d t47 x126), (1, .fn 36 .vnil (.vcons (.ptr 1000000 0) .vnil)), (5, .vec 202 t2), (6, .vec 302 t2), (7, .vec 402 t4), (9, .d t2 x127), (11, .d t2 x129), (83, .d t2 x128), (84, .d t2 x129)], [(202, .vec 2 t2 x130), (302, .vec 3 t2 x131), (402, .vec 4 t4 x132), (1000000, bx t22 x133)]⟩ aN ?_
  obtain ⟨g_0, h⟩ := gd_elim h
  obtain ⟨g_1, h⟩ := gd_elim h
  obtain ⟨g_2, h⟩ := gd_elim h
  obtain ⟨g_3, h⟩ := gd_elim h
  obtain ⟨g_4, h⟩ := gd_elim h
  obtain ⟨g_5, h⟩ := gd_elim h
  obtain ⟨g_6, h⟩ := gd_elim h
  obtain ⟨y157, h_y157, h⟩ := bnd_elim h
  refine qN [(12, .call (.d t2 y157))] 2500 ⟨[(0, .d t47 x126), (1, .fn 36 .vnil (.vcons (.ptr 1000000 0) .vnil)), (5, .vec 202 t2), (6, .vec 302 t2), (7, .vec 402 t4), (9, .d t2 x127), (11, .d t2 x129), (12, .d t2 (wrapI .i64 ((List.getD x130 (toN x127) (0 : Int)) + y157))), (83, .d t2 x128), (84, .d t2 x129)], [(202, .vec 2 t2 x130), (302, .vec 3 t2 x131), (402, .vec 4 t4 x132), (1000000, bx t22 x133)]⟩ (aC g_0 (aC g_1 (aC g_2 (aC g_3 (aC g_4 (aC g_5 (aC g_6 (aC (c39 h_y157) aN)))))))) ?_
  obtain ⟨g_0, h⟩ := gd_elim h
  obtain ⟨g_1, h⟩ := gd_elim h
  obtain ⟨g_2, h⟩ := gd_elim h
  rcases bif_elim h with ⟨hb3, h⟩ | ⟨hb3, h⟩
  ·obtain ⟨g_4, h⟩ := gd_elim h
   obtain ⟨g_5, h⟩ := gd_elim h
   obtain ⟨g_6, h⟩ := gd_elim h
   rcases bif_elim h with ⟨hb7, h⟩ | ⟨hb7, h⟩
   ·obtain ⟨g_8, h⟩ := gd_elim h
    obtain ⟨g_9, h⟩ := gd_elim h
    obtain ⟨g_10, h⟩ := gd_elim h
    obtain ⟨g_11, h⟩ := gd_elim h
    obtain ⟨y158, h_y158, h⟩ := bnd_elim h
    refine qN [(5, .b true), (11, .b true), (30, .callS [(1000000, bx t22 x133)] [(.d t25 (List.getD x126 (toN x127) ((0 : Int), (0 : Int)))), (.d t25 (List.getD x126 (toN x129) ((0 : Int), (0 : Int)))), (.ptr 1000000 0)] [(1000000, 1000000)] (.d t4 y158) [(1000000, bx t22 x133)])] 2600 ⟨[(0, .d t47 x126), (1, .fn 36 .vnil (.vcons (.ptr 1000000 0) .vnil)), (5, .vec 202 t2), (6, .vec 302 t2), (7, .vec 402 t4), (9, .d t2 x127), (11, .d t2 x129), (12, .d t2 (wrapI .i64 ((List.getD x130 (toN x127) (0 : Int)) + y157))), (83, .d t2 x128), (84, .d t2 x129), (132, .d t4 y158)], [(202, .vec 2 t2 x130), (302, .vec 3 t2 x131), (402, .vec 4 t4 x132), (1000000, bx t22 x133)]⟩ (aC g_0 (aC g_1 (aC g_2 (aC hb3 (aC g_4 (aC g_5 (aC g_6 (aC hb7 (aC g_8 (aC g_9 (aC g_10 (aC g_11 (aC (show (([(.d t25 (List.getD x126 (toN x127) ((0 : Int), (0 : Int)))), (.d t25 (List.getD x126 (toN x129) ((0 : Int), (0 : Int)))), (.ptr 1000000 0)] : List V) = List.map (V.ren (renL [(1000000, 1000000)] 2630)) [(.d t25 (List.getD x126 (toN x127) ((0 : Int), (0 : Int)))), (.d t25 (List.getD x126 (toN x129) ((0 : Int), (0 : Int)))), (.ptr 1000000 0)]) from (by kernel_rfl)) (aC (c36s0 h_y158) (aC (show ((some (bx t22 x133) : Option E) = some (E.ren (renL [(1000000, 1000000)] 2630) (bx t22 x133))) from (by kernel_rfl)) aN))))))))))))))) ?_
    obtain ⟨o168, h_o168, h⟩ := bnd_elim h
    refine Run.mono (f38s0_c5_ok x126 x127 x129 (wrapI .i64 ((List.getD x130 (toN x127) (0 : Int)) + y157)) x128 y158 x130 x131 x132 x133 h_o168) ?_
    rintro _ _ ⟨rfl, rfl⟩
    show Run Pg 177 _ _ _
    refine qE [] 2800 ⟨[(0, .d t47 x126), (1, .fn 36 .vnil (.vcons (.ptr 1000000 0) .vnil)), (5, .vec 202 t2), (6, .vec 302 t2), (7, .vec 402 t4), (9, .d t2 x127), (83, .d t2 x128), (84, .d t2 (wrapI .i64 (x129 + (1 : Int))))], [(202, .vec 2 t2 o168.1), (302, .vec 3 t2 o168.2), (402, .vec 4 t4 x132), (1000000, bx t22 x133)]⟩ aN ?_
    exact ⟨m, Nat.lt_succ_self m, _, _, _, rfl, h⟩
   ·obtain ⟨g_8, h⟩ := gd_elim h
    obtain ⟨g_9, h⟩ := gd_elim h
    obtain ⟨g_10, h⟩ := gd_elim h
    rcases bif_elim h with ⟨hb11, h⟩ | ⟨hb11, h⟩
    ·obtain ⟨g_12, h⟩ := gd_elim h
     obtain ⟨g_13, h⟩ := gd_elim h
     obtain ⟨g_14, h⟩ := gd_elim h
     obtain ⟨g_15, h⟩ := gd_elim h
     obtain ⟨y158, h_y158, h⟩ := bnd_elim h
     refine qN [(5, .b true), (11, .b false), (20, .b true), (30, .callS [(1000000, bx t22 x133)] [(.d t25 (List.getD x126 (toN x127) ((0 : Int), (0 : Int)))), (.d t25 (List.getD x126 (toN x129) ((0 : Int), (0 : Int)))), (.ptr 1000000 0)] [(1000000, 1000000)] (.d t4 y158) [(1000000, bx t22 x133)])] 2600 ⟨[(0, .d t47 x126), (1, .fn 36 .vnil (.vcons (.ptr 1000000 0) .vnil)), (5, .vec 202 t2), (6, .vec 302 t2), (7, .vec 402 t4), (9, .d t2 x127), (11, .d t2 x129), (12, .d t2 (wrapI .i64 ((List.getD x130 (toN x127) (0 : Int)) + y157))), (83, .d t2 x128), (84, .d t2 x129), (132, .d t4 y158)], [(202, .vec 2 t2 x130), (302, .vec 3 t2 x131), (402, .vec 4 t4 x132), (1000000, bx t22 x133)]⟩ (aC g_0 (aC g_1 (aC g_2 (aC hb3 (aC g_4 (aC g_5 (aC g_6 (aC hb7 (aC g_8 (aC g_9 (aC g_10 (aC hb11 (aC g_12 (aC g_13 (aC g_14 (aC g_15 (aC (show (([(.d t25 (List.getD x126 (toN x127) ((0 : Int), (0 : Int)))), (.d t25 (List.getD x126 (toN x129) ((0 : Int), (0 : Int)))), (.ptr 1000000 0)] : List V) = List.map (V.ren (renL [(1000000, 1000000)] 2630)) [(.d t25 (List.getD x126 (toN x127) ((0 : Int), (0 : Int)))), (.d t25 (List.getD x126 (toN x129) ((0 : Int), (0 : Int)))), (.ptr 1000000 0)]) from (by kernel_rfl)) (aC (c36s0 h_y158) (aC (show ((some (bx t22 x133) : Option E) = some (E.ren (renL [(1000000, 1000000)] 2630) (bx t22 x133))) from (by kernel_rfl)) aN))))))))))))))))))) ?_
     obtain ⟨o179, h_o179, h⟩ := bnd_elim h
     refine Run.mono (f38s0_c6_ok x126 x127 x129 (wrapI .i64 ((List.getD x130 (toN x127) (0 : Int)) + y157)) x128 y158 x130 x131 x132 x133 h_o179) ?_
     rintro _ _ ⟨rfl, rfl⟩
     show Run Pg 177 _ _ _
     refine qE [] 2800 ⟨[(0, .d t47 x126), (1, .fn 36 .vnil (.vcons (.ptr 1000000 0) .vnil)), (5, .vec 202 t2), (6, .vec 302 t2), (7, .vec 402 t4), (9, .d t2 x127), (83, .d t2 x128), (84, .d t2 (wrapI .i64 (x129 + (1 : Int))))], [(202, .vec 2 t2 o179.1), (302, .vec 3 t2 o179.2), (402, .vec 4 t4 x132), (1000000, bx t22 x133)]⟩ aN ?_
     exact ⟨m, Nat.lt_succ_self m, _, _, _, rfl, h⟩
    ·refine qN [(5, .b true), (11, .b false), (20, .b false)] 2600 ⟨[(0, .d t47 x126), (1, .fn 36 .vnil (.vcons (.ptr 1000000 0) .vnil)), (5, .vec 202 t2), (6, .vec 302 t2), (7, .vec 402 t4), (9, .d t2 x127), (11, .d t2 x129), (12, .d t2 (wrapI .i64 ((List.getD x130 (toN x127) (0 : Int)) + y157))), (83, .d t2 x128), (84, .d t2 x129), (132, .d t4 false)], [(202, .vec 2 t2 x130), (302, .vec 3 t2 x131), (402, .vec 4 t4 x132), (1000000, bx t22 x133)]⟩ (aC g_0 (aC g_1 (aC g_2 (aC hb3 (aC g_4 (aC g_5 (aC g_6 (aC hb7 (aC g_8 (aC g_9 (aC g_10 (aC hb11 aN)))))))))))) ?_
     refine Run.cd false (fun hb => (by cases hb)) (fun hb => ?_)
     refine Run.sk ?_
     show Run Pg 177 _ _ _
     refine qE [] 2800 ⟨[(0, .d t47 x126), (1, .fn 36 .vnil (.vcons (.ptr 1000000 0) .vnil)), (5, .vec 202 t2), (6, .vec 302 t2), (7, .vec 402 t4), (9, .d t2 x127), (83, .d t2 x128), (84, .d t2 (wrapI .i64 (x129 + (1 : Int))))], [(202, .vec 2 t2 x130), (302, .vec 3 t2 x131), (402, .vec 4 t4 x132), (1000000, bx t22 x133)]⟩ aN ?_
     exact ⟨m, Nat.lt_succ_self m, _, _, _, rfl, h⟩
  ·refine qN [(5, .b false)] 2600 ⟨[(0, .d t47 x126), (1, .fn 36 .vnil (.vcons (.ptr 1000000 0) .vnil)), (5, .vec 202 t2), (6, .vec 302 t2), (7, .vec 402 t4), (9, .d t2 x127), (11, .d t2 x129), (12, .d t2 (wrapI .i64 ((List.getD x130 (toN x127) (0 : Int)) + y157))), (83, .d t2 x128), (84, .d t2 x129), (132, .d t4 false)], [(202, .vec 2 t2 x130), (302, .vec 3 t2 x131), (402, .vec 4 t4 x132), (1000000, bx t22 x133)]⟩ (aC g_0 (aC g_1 (aC g_2 (aC hb3 aN)))) ?_
   refine Run.cd false (fun hb => (by cases hb)) (fun hb => ?_)
   refine Run.sk ?_
   show Run Pg 177 _ _ _
   refine qE [] 2800 ⟨[(0, .d t47 x126), (1, .fn 36 .vnil (.vcons (.ptr 1000000 0) .vnil)), (5, .vec 202 t2), (6, .vec 302 t2), (7, .vec 402 t4), (9, .d t2 x127), (83, .d t2 x128), (84, .d t2 (wrapI .i64 (x129 + (1 : Int))))], [(202, .vec 2 t2 x130), (302, .vec 3 t2 x131), (402, .vec 4 t4 x132), (1000000, bx t22 x133)]⟩ aN ?_
   exact ⟨m, Nat.lt_succ_self m, _, _, _, rfl, h⟩
 ·replace h := bif_f h hb
  refine qK ⟨[(0, .d t47 x126), (1, .fn 36 .vnil (.vcons (.ptr 1000000 0) .vnil)), (5, .vec 202 t2), (6, .vec 302 t2), (7, .vec 402 t4)], [(202, .vec 2 t2 x130), (302, .vec 3 t2 x131), (402, .vec 4 t4 x132), (1000000, bx t22 x133)]⟩ ?_
  refine Run.ex 6 ?_
  obtain rfl := sI h
  exact ⟨rfl, by kernel_rfl⟩

def f38s0_l1_post (a1 : List (Int × Int × Int × Int × Int)) (x8 : List (Int × Int)) (x12 : List (Int × Int × Int × Int × Int)) : (((List Int)) ⊕ ((List (Int × Int)) × (List (Int × Int × Int × Int × Int)))) → Ex → St → Prop
 | .inl o, x, s => x = .out 2 ∧ s = ⟨[(0, .d t47 x8), (6, .vec 302 t2)], [(302, .vec 3 t2 o), (1000000, bx t22 x12)]⟩
 | .inr o, x, s => x = .ret ∧ fin38s0 a1 o x s

def f38s0_l1_b (x8 : List (Int × Int)) (x12 : List (Int × Int × Int × Int × Int)) (again : (List Int) × (List Int) × (List Bool) → Option (((List Int)) ⊕ ((List (Int × Int)) × (List (Int × Int × Int × Int × Int))))) : (List Int) × (List Int) × (List Bool) → Option (((List Int)) ⊕ ((List (Int × Int)) × (List (Int × Int × Int × Int × Int))))
 | (x9, x10, x11) =>
 ((f38s0_l2 (ofN (List.length x8)) x9 x11 (2 + List.length x8 + List.length x9 + List.length x10 + List.length x11 + List.length x12) ((-1 : Int), (0 : Int))).bind fun o125 =>
 (bif (decide (o125 < (0 : Int))) then
 some (.inr (([] : List (Int × Int)), x12))
 else
 (bif (o125 == (wrapI .i64 ((ofN (List.length x8)) - (1 : Int)))) then
 some (.inl x10)
 else
 gd (0 ≤ o125) <|
 gd (o125 < ((List.length x11 : Nat) : Int)) <|
 gd ((toN o125) < List.length x11) <|
 ((f38s0_l4 x8 o125 (ofN (List.length x8)) (List.set x11 (toN o125) true) x12 (2 + List.length x8 + List.length (List.set x11 (toN o125) true) + List.length x12 + List.length x9 + List.length x10) ((0 : Int), x9, x10)).bind fun o180 =>
 again (o180.1, o180.2, (List.set x11 (toN o125) true))))))

def f38s0_l1 (x8 : List (Int × Int)) (x12 : List (Int × Int × Int × Int × Int)) : Nat → (List Int) × (List Int) × (List Bool) → Option (((List Int)) ⊕ ((List (Int × Int)) × (List (Int × Int × Int × Int × Int)))) := loopF (f38s0_l1_b x8 x12)

theorem f38s0_l1_ok (a1 : List (Int × Int × Int × Int × Int)) (x8 : List (Int × Int)) (x12 : List (Int × Int × Int × Int × Int)) (k : Nat) (x9 : List Int) (x10 : List Int) (x11 : List Bool) {out : (((List Int)) ⊕ ((List (Int × Int)) × (List (Int × Int × Int × Int × Int))))} (h : f38s0_l1 x8 x12 k (x9, x10, x11) = some out) : Run Pg 177 (bk1 (sq1 (sq2 (sq2 (sq2 (sq2 (sq2 (sq2 c_38)))))))) ⟨[(0, .d t47 x8), (1, .fn 36 .vnil (.vcons (.ptr 1000000 0) .vnil)), (5, .vec 202 t2), (6, .vec 302 t2), (7, .vec 402 t4)], [(202, .vec 2 t2 x9), (302, .vec 3 t2 x10), (402, .vec 4 t4 x11), (1000000, bx t22 x12)]⟩ (f38s0_l1_post a1 x8 x12 out) := by
 refine Run.loopN (by kernel_rfl) (fun m s => ∃ x9 x10 x11, s = ⟨[(0, .d t47 x8), (1, .fn 36 .vnil (.vcons (.ptr 1000000 0) .vnil)), (5, .vec 202 t2), (6, .vec 302 t2), (7, .vec 402 t4)], [(202, .vec 2 t2 x9), (302, .vec 3 t2 x10), (402, .vec 4 t4 x11), (1000000, bx t22 x12)]⟩ ∧ f38s0_l1 x8 x12 m (x9, x10, x11) = some out) ?_ k ⟨x9, x10, x11,  rfl, h⟩
 rintro m s ⟨x9, x10, x11,  rfl, h⟩
 cases m with
 | zero => cases h
 | succ m =>
 replace h : f38s0_l1_b x8 x12 (f38s0_l1 x8 x12 m) (x9, x10, x11) = some out := h
 unfold f38s0_l1_b at h
 refine Run.bl 3 ?_
 refine qN [] 1100 ⟨[(0, .d t47 x8), (1, .fn 36 .vnil (.vcons (.ptr 1000000 0) .vnil)), (5, .vec 202 t2), (6, .vec 302 t2), (7, .vec 402 t4), (9, .d t2 (-1 : Int))], [(202, .vec 2 t2 x9), (302, .vec 3 t2 x10), (402, .vec 4 t4 x11), (1000000, bx t22 x12)]⟩ aN ?_
 refine Run.sq ?_
 refine qN [] 1200 ⟨[(0, .d t47 x8), (1, .fn 36 .vnil (.vcons (.ptr 1000000 0) .vnil)), (5, .vec 202 t2), (6, .vec 302 t2), (7, .vec 402 t4), (9, .d t2 (-1 : Int)), (39, .d t2 (ofN (List.length x8))), (40, .d t2 (0 : Int))], [(202, .vec 2 t2 x9), (302, .vec 3 t2 x10), (402, .vec 4 t4 x11), (1000000, bx t22 x12)]⟩ aN ?_
 refine Run.bl 4 ?_
 obtain ⟨o125, h_o125, h⟩ := bnd_elim h
 refine Run.mono (f38s0_l2_ok x8 (ofN (List.length x8)) x9 x10 x11 x12 _ (-1 : Int) (0 : Int) h_o125) ?_
 rintro _ _ ⟨rfl, rfl⟩
 show Run Pg 177 _ _ _
 refine Run.sq ?_
 refine qN [] 1800 ⟨[(0, .d t47 x8), (1, .fn 36 .vnil (.vcons (.ptr 1000000 0) .vnil)), (5, .vec 202 t2), (6, .vec 302 t2), (7, .vec 402 t4), (9, .d t2 o125), (73, .d t4 (decide (o125 < (0 : Int))))], [(202, .vec 2 t2 x9), (302, .vec 3 t2 x10), (402, .vec 4 t4 x11), (1000000, bx t22 x12)]⟩ aN ?_
 refine Run.cd (decide (o125 < (0 : Int))) (fun hb => ?_) (fun hb => ?_)
 ·replace h := bif_t h hb
  refine qN [] 1900 ⟨[(4, .nil)], [(1000000, bx t22 x12)]⟩ aN ?_
  refine Run.rt ?_
  obtain rfl := sI h
  exact ⟨rfl, [.nil], ⟨[], [(1000000, bx t22 x12)]⟩, by kernel_rfl, by rw [nilOr_t rfl]; kernel_rfl, by kernel_rfl, by kernel_rfl⟩
 ·replace h := bif_f h hb
  refine Run.sk ?_
  show Run Pg 177 _ _ _
  refine Run.sq ?_
  refine qN [] 2000 ⟨[(0, .d t47 x8), (1, .fn 36 .vnil (.vcons (.ptr 1000000 0) .vnil)), (5, .vec 202 t2), (6, .vec 302 t2), (7, .vec 402 t4), (9, .d t2 o125), (78, .d t4 (o125 == (wrapI .i64 ((ofN (List.length x8)) - (1 : Int)))))], [(202, .vec 2 t2 x9), (302, .vec 3 t2 x10), (402, .vec 4 t4 x11), (1000000, bx t22 x12)]⟩ aN ?_
  refine Run.cd (o125 == (wrapI .i64 ((ofN (List.length x8)) - (1 : Int)))) (fun hb => ?_) (fun hb => ?_)
  ·replace h := bif_t h hb
   refine qK ⟨[(0, .d t47 x8), (6, .vec 302 t2)], [(302, .vec 3 t2 x10), (1000000, bx t22 x12)]⟩ ?_
   refine Run.ex 2 ?_
   obtain rfl := sI h
   exact ⟨rfl, by kernel_rfl⟩
  ·replace h := bif_f h hb
   refine Run.sk ?_
   show Run Pg 177 _ _ _
   obtain ⟨g_0, h⟩ := gd_elim h
   obtain ⟨g_1, h⟩ := gd_elim h
   obtain ⟨g_2, h⟩ := gd_elim h
   refine qN [] 2100 ⟨[(0, .d t47 x8), (1, .fn 36 .vnil (.vcons (.ptr 1000000 0) .vnil)), (5, .vec 202 t2), (6, .vec 302 t2), (7, .vec 402 t4), (9, .d t2 o125)], [(202, .vec 2 t2 x9), (302, .vec 3 t2 x10), (402, .vec 4 t4 (List.set x11 (toN o125) true)), (1000000, bx t22 x12)]⟩ (aC g_0 (aC g_1 (aC g_2 aN))) ?_
   refine qN [] 2200 ⟨[(0, .d t47 x8), (1, .fn 36 .vnil (.vcons (.ptr 1000000 0) .vnil)), (5, .vec 202 t2), (6, .vec 302 t2), (7, .vec 402 t4), (9, .d t2 o125), (83, .d t2 (ofN (List.length x8))), (84, .d t2 (0 : Int))], [(202, .vec 2 t2 x9), (302, .vec 3 t2 x10), (402, .vec 4 t4 (List.set x11 (toN o125) true)), (1000000, bx t22 x12)]⟩ aN ?_
   refine Run.bl 6 ?_
   obtain ⟨o180, h_o180, h⟩ := bnd_elim h
   refine Run.mono (f38s0_l4_ok x8 o125 (ofN (List.length x8)) (List.set x11 (toN o125) true) x12 _ (0 : Int) x9 x10 h_o180) ?_
   rintro _ _ ⟨rfl, rfl⟩
   exact ⟨m, Nat.lt_succ_self m, _, _, _, rfl, h⟩

def f38s0_c8_post (x195 : List (Int × Int)) (x196 : Int) (x197 : Bool) (x198 : List Int) (x199 : List (Int × Int)) (x200 : List (Int × Int × Int × Int × Int)) : ((List (Int × Int))) → Ex → St → Prop
 | o, x, s => x = .nrm ∧ s = ⟨[(0, .d t47 x195), (6, .vec 302 t2), (13, .vec 90013 t25), (14, .d t2 x196)], [(302, .vec 3 t2 x198), (90013, .vec 26 t25 o), (1000000, bx t22 x200)]⟩

def f38s0_c8 (x195 : List (Int × Int)) (x196 : Int) (x197 : Bool) (x199 : List (Int × Int)) : Option ((List (Int × Int))) :=
 (bif x197 then
 gd (0 ≤ x196) <|
 gd (x196 < ((List.length x195 : Nat) : Int)) <|
 gd (List.length (x199 ++ ([(List.getD x195 (toN x196) ((0 : Int), (0 : Int)))] : List (Int × Int))) ≤ 1073741824) <|
 some (x199 ++ ([(List.getD x195 (toN x196) ((0 : Int), (0 : Int)))] : List (Int × Int)))
 else
 some x199)

theorem f38s0_c8_ok (x195 : List (Int × Int)) (x196 : Int) (x197 : Bool) (x198 : List Int) (x199 : List (Int × Int)) (x200 : List (Int × Int × Int × Int × Int)) {out : ((List (Int × Int)))} (h : f38s0_c8 x195 x196 x197 x199 = some out) : Run Pg 177 (sq2 (bk1 (sq1 (sq2 (lp1 (bk1 (sq2 (sq1 (sq2 (sq2 (sq2 (sq2 (sq2 (sq2 (sq2 (sq2 c_38)))))))))))))))) ⟨[(0, .d t47 x195), (6, .vec 302 t2), (13, .vec 90013 t25), (14, .d t2 x196), (166, .d t4 x197)], [(302, .vec 3 t2 x198), (90013, .vec 26 t25 x199), (1000000, bx t22 x200)]⟩ (f38s0_c8_post x195 x196 x197 x198 x199 x200 out) := by
 unfold f38s0_c8 at h
 refine Run.cd x197 (fun hb => ?_) (fun hb => ?_)
 ·replace h := bif_t h hb
  obtain ⟨g_0, h⟩ := gd_elim h
  obtain ⟨g_1, h⟩ := gd_elim h
  obtain ⟨g_2, h⟩ := gd_elim h
  refine qE [] 3400 ⟨[(0, .d t47 x195), (6, .vec 302 t2), (13, .vec 90013 t25), (14, .d t2 x196)], [(302, .vec 3 t2 x198), (90013, .vec 26 t25 (x199 ++ ([(List.getD x195 (toN x196) ((0 : Int), (0 : Int)))] : List (Int × Int)))), (1000000, bx t22 x200)]⟩ (aC g_0 (aC g_1 (aC g_2 aN))) ?_
  obtain rfl := sI h
  exact ⟨rfl, by kernel_rfl⟩
 ·replace h := bif_f h hb
  refine qK ⟨[(0, .d t47 x195), (6, .vec 302 t2), (13, .vec 90013 t25), (14, .d t2 x196)], [(302, .vec 3 t2 x198), (90013, .vec 26 t25 x199), (1000000, bx t22 x200)]⟩ ?_
  refine Run.sk ?_
  obtain rfl := sI h
  exact ⟨rfl, by kernel_rfl⟩

def f38s0_l7_post (x183 : List (Int × Int)) (x185 : List Int) (x187 : List (Int × Int × Int × Int × Int)) : ((List (Int × Int))) → Ex → St → Prop
 | o, x, s => x = .out 8 ∧ s = ⟨[(13, .vec 90013 t25)], [(90013, .vec 26 t25 o), (1000000, bx t22 x187)]⟩

def f38s0_l7_b (x183 : List (Int × Int)) (x185 : List Int) (again : Int × (List (Int × Int)) → Option ((List (Int × Int)))) : Int × (List (Int × Int)) → Option ((List (Int × Int)))
 | (x184, x186) =>
 (bif (decide ((0 : Int) ≤ x184)) then
 (bif ((ofN (List.length x186)) == (0 : Int)) then
 gd (0 ≤ x184) <|
 gd (x184 < ((List.length x183 : Nat) : Int)) <|
 gd (List.length (x186 ++ ([(List.getD x183 (toN x184) ((0 : Int), (0 : Int)))] : List (Int × Int))) ≤ 1073741824) <|
 gd (0 ≤ x184) <|
 gd (x184 < ((List.length x185 : Nat) : Int)) <|
 gd ((toN x184) < List.length x185) <|
 again ((List.getD x185 (toN x184) (0 : Int)), (x186 ++ ([(List.getD x183 (toN x184) ((0 : Int), (0 : Int)))] : List (Int × Int))))
 else
 gd (0 ≤ (wrapI .i64 ((ofN (List.length x186)) - (1 : Int)))) <|
 gd ((wrapI .i64 ((ofN (List.length x186)) - (1 : Int))) < ((List.length x186 : Nat) : Int)) <|
 gd ((toN (wrapI .i64 ((ofN (List.length x186)) - (1 : Int)))) < List.length x186) <|
 gd (0 ≤ x184) <|
 gd (x184 < ((List.length x183 : Nat) : Int)) <|
 ((f38s0_c8 x183 x184 (!(eqD t25 (List.getD x186 (toN (wrapI .i64 ((ofN (List.length x186)) - (1 : Int)))) ((0 : Int), (0 : Int))) (List.getD x183 (toN x184) ((0 : Int), (0 : Int))))) x186).bind fun o201 =>
 gd (0 ≤ x184) <|
 gd (x184 < ((List.length x185 : Nat) : Int)) <|
 gd ((toN x184) < List.length x185) <|
 again ((List.getD x185 (toN x184) (0 : Int)), o201)))
 else
 some x186)

def f38s0_l7 (x183 : List (Int × Int)) (x185 : List Int) : Nat → Int × (List (Int × Int)) → Option ((List (Int × Int))) := loopF (f38s0_l7_b x183 x185)

theorem f38s0_l7_ok (x183 : List (Int × Int)) (x185 : List Int) (x187 : List (Int × Int × Int × Int × Int)) (k : Nat) (x184 : Int) (x186 : List (Int × Int)) {out : ((List (Int × Int)))} (h : f38s0_l7 x183 x185 k (x184, x186) = some out) : Run Pg 177 (bk1 (sq2 (sq1 (sq2 (sq2 (sq2 (sq2 (sq2 (sq2 (sq2 (sq2 c_38))))))))))) ⟨[(0, .d t47 x183), (6, .vec 302 t2), (13, .vec 90013 t25), (14, .d t2 x184)], [(302, .vec 3 t2 x185), (90013, .vec 26 t25 x186), (1000000, bx t22 x187)]⟩ (f38s0_l7_post x183 x185 x187 out) := by
 refine Run.loopN (by kernel_rfl) (fun m s => ∃ x184 x186, s = ⟨[(0, .d t47 x183), (6, .vec 302 t2), (13, .vec 90013 t25), (14, .d t2 x184)], [(302, .vec 3 t2 x185), (90013, .vec 26 t25 x186), (1000000, bx t22 x187)]⟩ ∧ f38s0_l7 x183 x185 m (x184, x186) = some out) ?_ k ⟨x184, x186,  rfl, h⟩
 rintro m s ⟨x184, x186,  rfl, h⟩
 cases m with
 | zero => cases h
 | succ m =>
 replace h : f38s0_l7_b x183 x185 (f38s0_l7 x183 x185 m) (x184, x186) = some out := h
 unfold f38s0_l7_b at h
 refine Run.sq ?_
 refine qN [] 3100 ⟨[(0, .d t47 x183), (6, .vec 302 t2), (13, .vec 90013 t25), (14, .d t2 x184), (146, .d t4 (decide ((0 : Int) ≤ x184)))], [(302, .vec 3 t2 x185), (90013, .vec 26 t25 x186), (1000000, bx t22 x187)]⟩ aN ?_
 refine Run.cd (decide ((0 : Int) ≤ x184)) (fun hb => ?_) (fun hb => ?_)
 ·replace h := bif_t h hb
  refine Run.sk ?_
  show Run Pg 177 _ _ _
  refine Run.sq ?_
  refine Run.bl 9 ?_
  rcases bif_elim h with ⟨hb0, h⟩ | ⟨hb0, h⟩
  ·refine qN [(3, .b true)] 3300 ⟨[(0, .d t47 x183), (6, .vec 302 t2), (13, .vec 90013 t25), (14, .d t2 x184), (166, .d t4 true)], [(302, .vec 3 t2 x185), (90013, .vec 26 t25 x186), (1000000, bx t22 x187)]⟩ (aC hb0 aN) ?_
   refine Run.cd true (fun hb => ?_) (fun hb => (by cases hb))
   obtain ⟨g_0, h⟩ := gd_elim h
   obtain ⟨g_1, h⟩ := gd_elim h
   obtain ⟨g_2, h⟩ := gd_elim h
   refine qE [] 3400 ⟨[(0, .d t47 x183), (6, .vec 302 t2), (13, .vec 90013 t25), (14, .d t2 x184)], [(302, .vec 3 t2 x185), (90013, .vec 26 t25 (x186 ++ ([(List.getD x183 (toN x184) ((0 : Int), (0 : Int)))] : List (Int × Int)))), (1000000, bx t22 x187)]⟩ (aC g_0 (aC g_1 (aC g_2 aN))) ?_
   show Run Pg 177 _ _ _
   obtain ⟨g_0, h⟩ := gd_elim h
   obtain ⟨g_1, h⟩ := gd_elim h
   obtain ⟨g_2, h⟩ := gd_elim h
   refine qE [] 3200 ⟨[(0, .d t47 x183), (6, .vec 302 t2), (13, .vec 90013 t25), (14, .d t2 (List.getD x185 (toN x184) (0 : Int)))], [(302, .vec 3 t2 x185), (90013, .vec 26 t25 (x186 ++ ([(List.getD x183 (toN x184) ((0 : Int), (0 : Int)))] : List (Int × Int)))), (1000000, bx t22 x187)]⟩ (aC g_0 (aC g_1 (aC g_2 aN))) ?_
   exact ⟨m, Nat.lt_succ_self m, _, _, rfl, h⟩
  ·obtain ⟨g_1, h⟩ := gd_elim h
   obtain ⟨g_2, h⟩ := gd_elim h
   obtain ⟨g_3, h⟩ := gd_elim h
   obtain ⟨g_4, h⟩ := gd_elim h
   obtain ⟨g_5, h⟩ := gd_elim h
   refine qN [(3, .b false)] 3300 ⟨[(0, .d t47 x183), (6, .vec 302 t2), (13, .vec 90013 t25), (14, .d t2 x184), (166, .d t4 (!(eqD t25 (List.getD x186 (toN (wrapI .i64 ((ofN (List.length x186)) - (1 : Int)))) ((0 : Int), (0 : Int))) (List.getD x183 (toN x184) ((0 : Int), (0 : Int))))))], [(302, .vec 3 t2 x185), (90013, .vec 26 t25 x186), (1000000, bx t22 x187)]⟩ (aC hb0 (aC g_1 (aC g_2 (aC g_3 (aC g_4 (aC g_5 aN)))))) ?_
   obtain ⟨o201, h_o201, h⟩ := bnd_elim h
   refine Run.mono (f38s0_c8_ok x183 x184 (!(eqD t25 (List.getD x186 (toN (wrapI .i64 ((ofN (List.length x186)) - (1 : Int)))) ((0 : Int), (0 : Int))) (List.getD x183 (toN x184) ((0 : Int), (0 : Int))))) x185 x186 x187 h_o201) ?_
   rintro _ _ ⟨rfl, rfl⟩
   show Run Pg 177 _ _ _
   obtain ⟨g_0, h⟩ := gd_elim h
   obtain ⟨g_1, h⟩ := gd_elim h
   obtain ⟨g_2, h⟩ := gd_elim h
   refine qE [] 3200 ⟨[(0, .d t47 x183), (6, .vec 302 t2), (13, .vec 90013 t25), (14, .d t2 (List.getD x185 (toN x184) (0 : Int)))], [(302, .vec 3 t2 x185), (90013, .vec 26 t25 o201), (1000000, bx t22 x187)]⟩ (aC g_0 (aC g_1 (aC g_2 aN))) ?_
   exact ⟨m, Nat.lt_succ_self m, _, _, rfl, h⟩
 ·replace h := bif_f h hb
  refine qK ⟨[(13, .vec 90013 t25)], [(90013, .vec 26 t25 x186), (1000000, bx t22 x187)]⟩ ?_
  refine Run.ex 8 ?_
  obtain rfl := sI h
  exact ⟨rfl, by kernel_rfl⟩

def F38s0 (a0 : List (Int × Int)) (a1 : List (Int × Int × Int × Int × Int)) : Option ((List (Int × Int)) × (List (Int × Int × Int × Int × Int))) :=
 gd (0 ≤ (ofN (List.length a0))) <|
 gd ((ofN (List.length a0)) ≤ (ofN (List.length a0))) <|
 gd ((ofN (List.length a0)) ≤ 1073741824) <|
 gd (0 ≤ (ofN (List.length a0))) <|
 gd ((ofN (List.length a0)) ≤ (ofN (List.length a0))) <|
 gd ((ofN (List.length a0)) ≤ 1073741824) <|
 gd (0 ≤ (ofN (List.length a0))) <|
 gd ((ofN (List.length a0)) ≤ (ofN (List.length a0))) <|
 gd ((ofN (List.length a0)) ≤ 1073741824) <|
 ((f38s0_l0 (ofN (List.length (List.replicate (toN (ofN (List.length a0))) (0 : Int)))) (2 + List.length a0 + List.length (List.replicate (toN (ofN (List.length a0))) false) + List.length a1 + List.length (List.replicate (toN (ofN (List.length a0))) (0 : Int))) ((0 : Int), (List.replicate (toN (ofN (List.length a0))) (0 : Int)))).bind fun o7 =>
 gd ((0 : Int) < ((List.length o7 : Nat) : Int)) <|
 gd ((toN (0 : Int)) < List.length o7) <|
 ((f38s0_l1 a0 a1 (2 + List.length a0 + List.length a1 + List.length (List.set o7 (toN (0 : Int)) (0 : Int)) + List.length o7 + List.length (List.replicate (toN (ofN (List.length a0))) false)) ((List.set o7 (toN (0 : Int)) (0 : Int)), o7, (List.replicate (toN (ofN (List.length a0))) false))).bind fun o181 => match o181 with
 | .inl o182 =>
 ((f38s0_l7 a0 o182 (2 + List.length a0 + List.length o182 + List.length a1 + List.length ([] : List (Int × Int))) ((wrapI .i64 ((ofN (List.length a0)) - (1 : Int))), ([] : List (Int × Int)))).bind fun o202 =>
 (F57s0 o202).bind fun y203 =>
 gd (List.isEmpty y203 = false) <|
 some (y203, a1))
 | .inr o204 =>
 some o204))

theorem c38s0 {a0 : List (Int × Int)} {a1 : List (Int × Int × Int × Int × Int)} {r : (List (Int × Int)) × (List (Int × Int × Int × Int × Int))} (h : F38s0 a0 a1 = some r) : CallSt Pg 38 [(.d t47 a0), (.fn 36 .vnil (.vcons (.ptr 1000000 0) .vnil))] [(1000000, bx t22 a1)] (nilOr t25 r.1) [(1000000, bx t22 r.2)] := by
 refine callStN hX c_38 177 [.tmp 4] [99999] Go.Proofs.Tryz.func38 (by kernel_rfl) (by kernel_rfl) (by kernel_rfl) (Nat.le_of_ble_eq_true rfl) nilOr_pure ?_
 show Run Pg 177 c_38 ⟨[(0, .d t47 a0), (1, .fn 36 .vnil (.vcons (.ptr 1000000 0) .vnil))], [(1000000, bx t22 a1)]⟩ (fin38s0 a1 r)
 unfold F38s0 at h
 refine qN [] 100 ⟨[(0, .d t47 a0), (1, .fn 36 .vnil (.vcons (.ptr 1000000 0) .vnil))], [(1000000, bx t22 a1)]⟩ aN ?_
 obtain ⟨g_0, h⟩ := gd_elim h
 obtain ⟨g_1, h⟩ := gd_elim h
 obtain ⟨g_2, h⟩ := gd_elim h
 refine qN [] 200 ⟨[(0, .d t47 a0), (1, .fn 36 .vnil (.vcons (.ptr 1000000 0) .vnil)), (5, .vec 202 t2)], [(202, .vec 2 t2 (List.replicate (toN (ofN (List.length a0))) (0 : Int))), (1000000, bx t22 a1)]⟩ (aC g_0 (aC g_1 (aC g_2 aN))) ?_
 obtain ⟨g_0, h⟩ := gd_elim h
 obtain ⟨g_1, h⟩ := gd_elim h
 obtain ⟨g_2, h⟩ := gd_elim h
 refine qN [] 300 ⟨[(0, .d t47 a0), (1, .fn 36 .vnil (.vcons (.ptr 1000000 0) .vnil)), (5, .vec 202 t2), (6, .vec 302 t2)], [(202, .vec 2 t2 (List.replicate (toN (ofN (List.length a0))) (0 : Int))), (302, .vec 3 t2 (List.replicate (toN (ofN (List.length a0))) (0 : Int))), (1000000, bx t22 a1)]⟩ (aC g_0 (aC g_1 (aC g_2 aN))) ?_
 obtain ⟨g_0, h⟩ := gd_elim h
 obtain ⟨g_1, h⟩ := gd_elim h
 obtain ⟨g_2, h⟩ := gd_elim h
 refine qN [] 400 ⟨[(0, .d t47 a0), (1, .fn 36 .vnil (.vcons (.ptr 1000000 0) .vnil)), (5, .vec 202 t2), (6, .vec 302 t2), (7, .vec 402 t4)], [(202, .vec 2 t2 (List.replicate (toN (ofN (List.length a0))) (0 : Int))), (302, .vec 3 t2 (List.replicate (toN (ofN (List.length a0))) (0 : Int))), (402, .vec 4 t4 (List.replicate (toN (ofN (List.length a0))) false)), (1000000, bx t22 a1)]⟩ (aC g_0 (aC g_1 (aC g_2 aN))) ?_
 refine Run.sq ?_
 refine qN [] 500 ⟨[(0, .d t47 a0), (1, .fn 36 .vnil (.vcons (.ptr 1000000 0) .vnil)), (5, .vec 202 t2), (6, .vec 302 t2), (7, .vec 402 t4), (25, .d t2 (ofN (List.length (List.replicate (toN (ofN (List.length a0))) (0 : Int))))), (26, .d t2 (0 : Int))], [(202, .vec 2 t2 (List.replicate (toN (ofN (List.length a0))) (0 : Int))), (302, .vec 3 t2 (List.replicate (toN (ofN (List.length a0))) (0 : Int))), (402, .vec 4 t4 (List.replicate (toN (ofN (List.length a0))) false)), (1000000, bx t22 a1)]⟩ aN ?_
 refine Run.bl 0 ?_
 obtain ⟨o7, h_o7, h⟩ := bnd_elim h
 refine Run.mono (f38s0_l0_ok a0 (ofN (List.length (List.replicate (toN (ofN (List.length a0))) (0 : Int)))) (List.replicate (toN (ofN (List.length a0))) false) a1 _ (0 : Int) (List.replicate (toN (ofN (List.length a0))) (0 : Int)) h_o7) ?_
 rintro _ _ ⟨rfl, rfl⟩
 show Run Pg 177 _ _ _
 obtain ⟨g_1, h⟩ := gd_elim h
 obtain ⟨g_2, h⟩ := gd_elim h
 refine qN [] 1000 ⟨[(0, .d t47 a0), (1, .fn 36 .vnil (.vcons (.ptr 1000000 0) .vnil)), (5, .vec 202 t2), (6, .vec 302 t2), (7, .vec 402 t4)], [(202, .vec 2 t2 (List.set o7 (toN (0 : Int)) (0 : Int))), (302, .vec 3 t2 o7), (402, .vec 4 t4 (List.replicate (toN (ofN (List.length a0))) false)), (1000000, bx t22 a1)]⟩ (aC (show (0 ≤ (0 : Int)) from (by decide)) (aC g_1 (aC g_2 aN))) ?_
 refine Run.sq ?_
 refine Run.bl 2 ?_
 obtain ⟨o181, h_o181, h⟩ := bnd_elim h
 refine Run.mono (f38s0_l1_ok a1 a0 a1 _ (List.set o7 (toN (0 : Int)) (0 : Int)) o7 (List.replicate (toN (ofN (List.length a0))) false) h_o181) ?_
 rcases o181 with o182 | o204
 ·rintro _ _ ⟨rfl, rfl⟩
  show Run Pg 177 _ _ _
  refine qN [] 2900 ⟨[(0, .d t47 a0), (6, .vec 302 t2), (13, .nil)], [(302, .vec 3 t2 o182), (1000000, bx t22 a1)]⟩ aN ?_
  refine Run.sq ?_
  refine qN [] 3000 ⟨[(0, .d t47 a0), (6, .vec 302 t2), (13, .nil), (14, .d t2 (wrapI .i64 ((ofN (List.length a0)) - (1 : Int))))], [(302, .vec 3 t2 o182), (1000000, bx t22 a1)]⟩ aN ?_
  refine Run.bl 8 ?_
  refine Run.name (s' := ⟨[(13, .vec 90013 t25), (0, .d t47 a0), (6, .vec 302 t2), (13, .nil), (14, .d t2 (wrapI .i64 ((ofN (List.length a0)) - (1 : Int))))], [(90013, .vec 26 t25 []), (302, .vec 3 t2 o182), (1000000, bx t22 a1)]⟩) 13 90013 26 t25 (by kernel_rfl) ?_
  refine qK ⟨[(0, .d t47 a0), (6, .vec 302 t2), (13, .vec 90013 t25), (14, .d t2 (wrapI .i64 ((ofN (List.length a0)) - (1 : Int))))], [(302, .vec 3 t2 o182), (90013, .vec 26 t25 ([] : List (Int × Int))), (1000000, bx t22 a1)]⟩ ?_
  obtain ⟨o202, h_o202, h⟩ := bnd_elim h
  refine Run.mono (f38s0_l7_ok a0 o182 a1 _ (wrapI .i64 ((ofN (List.length a0)) - (1 : Int))) ([] : List (Int × Int)) h_o202) ?_
  rintro _ _ ⟨rfl, rfl⟩
  show Run Pg 177 _ _ _
  obtain ⟨y203, h_y203, h⟩ := bnd_elim h
  refine qN [(1, .callS [(1000000, .vec 26 t25 o202)] [(.vec 1000000 t25)] [(1000000, 90013)] (.tup .vnil) [(1000000, .vec 26 t25 y203)])] 3500 ⟨[(13, .vec 90013 t25)], [(90013, .vec 26 t25 y203), (1000000, bx t22 a1)]⟩ (aC (show (([(.vec 90013 t25)] : List V) = List.map (V.ren (renL [(1000000, 90013)] 3501)) [(.vec 1000000 t25)]) from (by kernel_rfl)) (aC (c57s0 h_y203) (aC (show ((some (.vec 26 t25 o202) : Option E) = some (E.ren (renL [(1000000, 90013)] 3501) (.vec 26 t25 o202))) from (by kernel_rfl)) aN))) ?_
  refine qN [] 3600 ⟨[(4, .vec 90013 t25)], [(90013, .vec 26 t25 y203), (1000000, bx t22 a1)]⟩ aN ?_
  refine Run.freeze (s' := ⟨[(4, .d t47 y203)], [(1000000, bx t22 a1)]⟩) 90013 (by kernel_rfl) ?_
  refine Run.rt ?_
  obtain ⟨g_n, h⟩ := gd_elim h
  obtain rfl := sI h
  exact ⟨[(.d t47 y203)], ⟨[], [(1000000, bx t22 a1)]⟩, by kernel_rfl, by rw [nilOr_f g_n]; kernel_rfl, by kernel_rfl, by kernel_rfl⟩
 ·rintro _ s ⟨rfl, hr⟩
  obtain rfl := sI h
  exact hr

/-! ## f16 -/

noncomputable def c_16 : Code := body0 Go.Proofs.Tryz.f16

def fin16 (r : (List (Int × Int)) × Int) : Ex → St → Prop := endK X0 [.tmp 6, .tmp 7] [47, 41] (.tup (.vcons (.d t47 r.1) (.vcons (.d t2 r.2) .vnil)))

def f16_l0_post (x6 : List (Int × Int × Int × Int × Int)) (x7 : Int) (x9 : Int × Int) : ((List (Int × Int))) → Ex → St → Prop
 | o, x, s => x = .out 0 ∧ s = ⟨[(5, .ptr 102 0), (8, .fn 36 .vnil (.vcons (.ptr 100 0) .vnil)), (9, .vec 1301 t25)], [(100, bx t22 x6), (102, bx t25 x9), (1301, .vec 26 t25 o)]⟩

def f16_l0_b (x6 : List (Int × Int × Int × Int × Int)) (x7 : Int) (again : Int × (List (Int × Int)) → Option ((List (Int × Int)))) : Int × (List (Int × Int)) → Option ((List (Int × Int)))
 | (x8, x10) =>
 (bif (decide (x8 < x7)) then
 gd (0 ≤ x8) <|
 gd (x8 < ((List.length x6 : Nat) : Int)) <|
 gd (List.length (x10 ++ ([((List.getD x6 (toN x8) ((0 : Int), (0 : Int), (0 : Int), (0 : Int), (0 : Int))).1, (List.getD x6 (toN x8) ((0 : Int), (0 : Int), (0 : Int), (0 : Int), (0 : Int))).2.1), ((List.getD x6 (toN x8) ((0 : Int), (0 : Int), (0 : Int), (0 : Int), (0 : Int))).2.2.1, (List.getD x6 (toN x8) ((0 : Int), (0 : Int), (0 : Int), (0 : Int), (0 : Int))).2.1), ((List.getD x6 (toN x8) ((0 : Int), (0 : Int), (0 : Int), (0 : Int), (0 : Int))).2.2.1, (List.getD x6 (toN x8) ((0 : Int), (0 : Int), (0 : Int), (0 : Int), (0 : Int))).2.2.2.1), ((List.getD x6 (toN x8) ((0 : Int), (0 : Int), (0 : Int), (0 : Int), (0 : Int))).1, (List.getD x6 (toN x8) ((0 : Int), (0 : Int), (0 : Int), (0 : Int), (0 : Int))).2.2.2.1)] : List (Int × Int))) ≤ 1073741824) <|
 again ((wrapI .i64 (x8 + (1 : Int))), (x10 ++ ([((List.getD x6 (toN x8) ((0 : Int), (0 : Int), (0 : Int), (0 : Int), (0 : Int))).1, (List.getD x6 (toN x8) ((0 : Int), (0 : Int), (0 : Int), (0 : Int), (0 : Int))).2.1), ((List.getD x6 (toN x8) ((0 : Int), (0 : Int), (0 : Int), (0 : Int), (0 : Int))).2.2.1, (List.getD x6 (toN x8) ((0 : Int), (0 : Int), (0 : Int), (0 : Int), (0 : Int))).2.1), ((List.getD x6 (toN x8) ((0 : Int), (0 : Int), (0 : Int), (0 : Int), (0 : Int))).2.2.1, (List.getD x6 (toN x8) ((0 : Int), (0 : Int), (0 : Int), (0 : Int), (0 : Int))).2.2.2.1), ((List.getD x6 (toN x8) ((0 : Int), (0 : Int), (0 : Int), (0 : Int), (0 : Int))).1, (List.getD x6 (toN x8) ((0 : Int), (0 : Int), (0 : Int), (0 : Int), (0 : Int))).2.2.2.1)] : List (Int × Int))))
 else
 some x10)

def f16_l0 (x6 : List (Int × Int × Int × Int × Int)) (x7 : Int) : Nat → Int × (List (Int × Int)) → Option ((List (Int × Int))) := loopF (f16_l0_b x6 x7)

theorem f16_l0_ok (x6 : List (Int × Int × Int × Int × Int)) (x7 : Int) (x9 : Int × Int) (k : Nat) (x8 : Int) (x10 : List (Int × Int)) {out : ((List (Int × Int)))} (h : f16_l0 x6 x7 k (x8, x10) = some out) : Run Pg 92 (bk1 (sq2 (sq1 (sq2 (sq2 (sq2 (sq2 (sq2 (sq2 (sq2 (sq2 c_16))))))))))) ⟨[(5, .ptr 102 0), (8, .fn 36 .vnil (.vcons (.ptr 100 0) .vnil)), (9, .vec 1301 t25), (52, .d t22 x6), (53, .d t2 x7), (54, .d t2 x8)], [(100, bx t22 x6), (102, bx t25 x9), (1301, .vec 26 t25 x10)]⟩ (f16_l0_post x6 x7 x9 out) := by
 refine Run.loopN (by kernel_rfl) (fun m s => ∃ x8 x10, s = ⟨[(5, .ptr 102 0), (8, .fn 36 .vnil (.vcons (.ptr 100 0) .vnil)), (9, .vec 1301 t25), (52, .d t22 x6), (53, .d t2 x7), (54, .d t2 x8)], [(100, bx t22 x6), (102, bx t25 x9), (1301, .vec 26 t25 x10)]⟩ ∧ f16_l0 x6 x7 m (x8, x10) = some out) ?_ k ⟨x8, x10,  rfl, h⟩
 rintro m s ⟨x8, x10,  rfl, h⟩
 cases m with
 | zero => cases h
 | succ m =>
 replace h : f16_l0_b x6 x7 (f16_l0 x6 x7 m) (x8, x10) = some out := h
 unfold f16_l0_b at h
 refine qN [] 1500 ⟨[(5, .ptr 102 0), (8, .fn 36 .vnil (.vcons (.ptr 100 0) .vnil)), (9, .vec 1301 t25), (52, .d t22 x6), (53, .d t2 x7), (54, .d t2 x8), (55, .d t4 (decide (x8 < x7)))], [(100, bx t22 x6), (102, bx t25 x9), (1301, .vec 26 t25 x10)]⟩ aN ?_
 refine Run.sq ?_
 refine Run.cd (decide (x8 < x7)) (fun hb => ?_) (fun hb => ?_)
 ·replace h := bif_t h hb
  refine Run.sk ?_
  show Run Pg 92 _ _ _
  refine Run.sq ?_
  refine Run.bl 1 ?_
  obtain ⟨g_0, h⟩ := gd_elim h
  obtain ⟨g_1, h⟩ := gd_elim h
  refine qN [] 1600 ⟨[(5, .ptr 102 0), (8, .fn 36 .vnil (.vcons (.ptr 100 0) .vnil)), (9, .vec 1301 t25), (11, .ptr 1602 0), (52, .d t22 x6), (53, .d t2 x7), (54, .d t2 x8)], [(100, bx t22 x6), (102, bx t25 x9), (1301, .vec 26 t25 x10), (1602, bx t33 (List.getD x6 (toN x8) ((0 : Int), (0 : Int), (0 : Int), (0 : Int), (0 : Int))))]⟩ (aC g_0 (aC g_1 aN)) ?_
  obtain ⟨g_0, h⟩ := gd_elim h
  refine qE [] 1700 ⟨[(5, .ptr 102 0), (8, .fn 36 .vnil (.vcons (.ptr 100 0) .vnil)), (9, .vec 1301 t25), (52, .d t22 x6), (53, .d t2 x7), (54, .d t2 x8)], [(100, bx t22 x6), (102, bx t25 x9), (1301, .vec 26 t25 (x10 ++ ([((List.getD x6 (toN x8) ((0 : Int), (0 : Int), (0 : Int), (0 : Int), (0 : Int))).1, (List.getD x6 (toN x8) ((0 : Int), (0 : Int), (0 : Int), (0 : Int), (0 : Int))).2.1), ((List.getD x6 (toN x8) ((0 : Int), (0 : Int), (0 : Int), (0 : Int), (0 : Int))).2.2.1, (List.getD x6 (toN x8) ((0 : Int), (0 : Int), (0 : Int), (0 : Int), (0 : Int))).2.1), ((List.getD x6 (toN x8) ((0 : Int), (0 : Int), (0 : Int), (0 : Int), (0 : Int))).2.2.1, (List.getD x6 (toN x8) ((0 : Int), (0 : Int), (0 : Int), (0 : Int), (0 : Int))).2.2.2.1), ((List.getD x6 (toN x8) ((0 : Int), (0 : Int), (0 : Int), (0 : Int), (0 : Int))).1, (List.getD x6 (toN x8) ((0 : Int), (0 : Int), (0 : Int), (0 : Int), (0 : Int))).2.2.2.1)] : List (Int × Int))))]⟩ (aC g_0 aN) ?_
  show Run Pg 92 _ _ _
  refine qE [] 1800 ⟨[(5, .ptr 102 0), (8, .fn 36 .vnil (.vcons (.ptr 100 0) .vnil)), (9, .vec 1301 t25), (52, .d t22 x6), (53, .d t2 x7), (54, .d t2 (wrapI .i64 (x8 + (1 : Int))))], [(100, bx t22 x6), (102, bx t25 x9), (1301, .vec 26 t25 (x10 ++ ([((List.getD x6 (toN x8) ((0 : Int), (0 : Int), (0 : Int), (0 : Int), (0 : Int))).1, (List.getD x6 (toN x8) ((0 : Int), (0 : Int), (0 : Int), (0 : Int), (0 : Int))).2.1), ((List.getD x6 (toN x8) ((0 : Int), (0 : Int), (0 : Int), (0 : Int), (0 : Int))).2.2.1, (List.getD x6 (toN x8) ((0 : Int), (0 : Int), (0 : Int), (0 : Int), (0 : Int))).2.1), ((List.getD x6 (toN x8) ((0 : Int), (0 : Int), (0 : Int), (0 : Int), (0 : Int))).2.2.1, (List.getD x6 (toN x8) ((0 : Int), (0 : Int), (0 : Int), (0 : Int), (0 : Int))).2.2.2.1), ((List.getD x6 (toN x8) ((0 : Int), (0 : Int), (0 : Int), (0 : Int), (0 : Int))).1, (List.getD x6 (toN x8) ((0 : Int), (0 : Int), (0 : Int), (0 : Int), (0 : Int))).2.2.2.1)] : List (Int × Int))))]⟩ aN ?_
  exact ⟨m, Nat.lt_succ_self m, _, _, rfl, h⟩
 ·replace h := bif_f h hb
  refine qK ⟨[(5, .ptr 102 0), (8, .fn 36 .vnil (.vcons (.ptr 100 0) .vnil)), (9, .vec 1301 t25)], [(100, bx t22 x6), (102, bx t25 x9), (1301, .vec 26 t25 x10)]⟩ ?_
  refine Run.ex 0 ?_
  obtain rfl := sI h
  exact ⟨rfl, by kernel_rfl⟩

def F16 (a0 : List (Int × Int × Int × Int × Int)) (a1 : Int × Int) (a2 : Int × Int) : Option ((List (Int × Int)) × Int) :=
 (F33s0 a0).bind fun y1 =>
 (bif y1 then
 some (([] : List (Int × Int)), (1 : Int))
 else
 (bif (decide ((8 : Int) < (ofN (List.length a0)))) then
 some (([] : List (Int × Int)), (3 : Int))
 else
 (F24 ([a1.1, a1.2, a2.1, a2.2] : List Int)).bind fun y2 =>
 (bif y2 then
 some (([] : List (Int × Int)), (11 : Int))
 else
 (F33s1 a0).bind fun y3 =>
 (bif y3 then
 some (([] : List (Int × Int)), (11 : Int))
 else
 (F36s0 a1 a1 a0).bind fun y4 =>
 (bif (!y4) then
 some (([] : List (Int × Int)), (15 : Int))
 else
 (F36s0 a2 a2 a0).bind fun y5 =>
 (bif (!y5) then
 some (([] : List (Int × Int)), (15 : Int))
 else
 (bif (eqD t25 a1 a2) then
 some (([a1] : List (Int × Int)), (0 : Int))
 else
 ((f16_l0 a0 (ofN (List.length a0)) (2 + List.length a0 + List.length ([a1] : List (Int × Int))) ((0 : Int), ([a1] : List (Int × Int)))).bind fun o11 =>
 gd (List.length (o11 ++ ([a2] : List (Int × Int))) ≤ 1073741824) <|
 (F38s0 (o11 ++ ([a2] : List (Int × Int))) a0).bind fun y12 =>
 (bif (List.isEmpty y12.1) then
 some (([] : List (Int × Int)), (16 : Int))
 else
 some (y12.1, (0 : Int)))))))))))

theorem c16 {a0 : List (Int × Int × Int × Int × Int)} {a1 : Int × Int} {a2 : Int × Int} {r : (List (Int × Int)) × Int} (h : F16 a0 a1 a2 = some r) : CallPure Pg 16 [(.d t22 a0), (.d t25 a1), (.d t25 a2)] (.tup (.vcons (.d t47 r.1) (.vcons (.d t2 r.2) .vnil))) := by
 refine qC c_16 92 [.tmp 6, .tmp 7] [47, 41] Go.Proofs.Tryz.func16 ?_
 show Run Pg 92 c_16 ⟨[(0, .d t22 a0), (1, .d t25 a1), (2, .d t25 a2)], []⟩ (fin16 r)
 unfold F16 at h
 refine qN [] 100 ⟨[(3, .ptr 100 0), (4, .ptr 101 0), (5, .ptr 102 0)], [(100, bx t22 a0), (101, bx t25 a1), (102, bx t25 a2)]⟩ aN ?_
 refine Run.sq ?_
 obtain ⟨y1, h_y1, h⟩ := bnd_elim h
 refine qN [(1, .call (.d t4 y1))] 200 ⟨[(3, .ptr 100 0), (4, .ptr 101 0), (5, .ptr 102 0), (14, .d t4 y1)], [(100, bx t22 a0), (101, bx t25 a1), (102, bx t25 a2)]⟩ (aC (c33s0 h_y1) aN) ?_
 refine Run.cd y1 (fun hb => ?_) (fun hb => ?_)
 ·replace h := bif_t h hb
  refine qN [] 300 ⟨[(6, .nil), (7, .d t2 (1 : Int))], []⟩ aN ?_
  refine Run.rt ?_
  obtain rfl := sI h
  exact qR [(.d t47 ([] : List (Int × Int))), (.d t2 (1 : Int))]
 ·replace h := bif_f h hb
  refine Run.sk ?_
  show Run Pg 92 _ _ _
  refine Run.sq ?_
  refine qN [] 400 ⟨[(3, .ptr 100 0), (4, .ptr 101 0), (5, .ptr 102 0), (17, .d t4 (decide ((8 : Int) < (ofN (List.length a0)))))], [(100, bx t22 a0), (101, bx t25 a1), (102, bx t25 a2)]⟩ aN ?_
  refine Run.cd (decide ((8 : Int) < (ofN (List.length a0)))) (fun hb => ?_) (fun hb => ?_)
  ·replace h := bif_t h hb
   refine qN [] 500 ⟨[(6, .nil), (7, .d t2 (3 : Int))], []⟩ aN ?_
   refine Run.rt ?_
   obtain rfl := sI h
   exact qR [(.d t47 ([] : List (Int × Int))), (.d t2 (3 : Int))]
  ·replace h := bif_f h hb
   refine Run.sk ?_
   show Run Pg 92 _ _ _
   refine Run.sq ?_
   obtain ⟨y2, h_y2, h⟩ := bnd_elim h
   rcases bif_elim h with ⟨hb1, h⟩ | ⟨hb1, h⟩
   ·refine qN [(9, .call (.d t4 y2)), (10, .b true)] 600 ⟨[(3, .ptr 100 0), (4, .ptr 101 0), (5, .ptr 102 0), (31, .d t4 true)], [(100, bx t22 a0), (101, bx t25 a1), (102, bx t25 a2)]⟩ (aC (c24 h_y2) (aC hb1 aN)) ?_
    refine Run.cd true (fun hb => ?_) (fun hb => (by cases hb))
    refine qN [] 700 ⟨[(6, .nil), (7, .d t2 (11 : Int))], []⟩ aN ?_
    refine Run.rt ?_
    obtain rfl := sI h
    exact qR [(.d t47 ([] : List (Int × Int))), (.d t2 (11 : Int))]
   ·obtain ⟨y3, h_y3, h⟩ := bnd_elim h
    refine qN [(9, .call (.d t4 y2)), (10, .b false), (12, .call (.d t4 y3))] 600 ⟨[(3, .ptr 100 0), (4, .ptr 101 0), (5, .ptr 102 0), (31, .d t4 y3)], [(100, bx t22 a0), (101, bx t25 a1), (102, bx t25 a2)]⟩ (aC (c24 h_y2) (aC hb1 (aC (c33s1 h_y3) aN))) ?_
    refine Run.cd y3 (fun hb => ?_) (fun hb => ?_)
    ·replace h := bif_t h hb
     refine qN [] 700 ⟨[(6, .nil), (7, .d t2 (11 : Int))], []⟩ aN ?_
     refine Run.rt ?_
     obtain rfl := sI h
     exact qR [(.d t47 ([] : List (Int × Int))), (.d t2 (11 : Int))]
    ·replace h := bif_f h hb
     refine Run.sk ?_
     show Run Pg 92 _ _ _
     refine qN [] 800 ⟨[(3, .ptr 100 0), (4, .ptr 101 0), (5, .ptr 102 0), (8, .fn 36 .vnil (.vcons (.ptr 100 0) .vnil))], [(100, bx t22 a0), (101, bx t25 a1), (102, bx t25 a2)]⟩ aN ?_
     refine Run.sq ?_
     obtain ⟨y4, h_y4, h⟩ := bnd_elim h
     rcases bif_elim h with ⟨hb3, h⟩ | ⟨hb3, h⟩
     ·refine qN [(3, .callS [(1000000, bx t22 a0)] [(.d t25 a1), (.d t25 a1), (.ptr 1000000 0)] [(1000000, 100)] (.d t4 y4) [(1000000, bx t22 a0)]), (5, .b true)] 900 ⟨[(3, .ptr 100 0), (4, .ptr 101 0), (5, .ptr 102 0), (8, .fn 36 .vnil (.vcons (.ptr 100 0) .vnil)), (44, .d t4 true)], [(100, bx t22 a0), (101, bx t25 a1), (102, bx t25 a2)]⟩ (aC (show (([(.d t25 a1), (.d t25 a1), (.ptr 100 0)] : List V) = List.map (V.ren (renL [(1000000, 100)] 903)) [(.d t25 a1), (.d t25 a1), (.ptr 1000000 0)]) from (by kernel_rfl)) (aC (c36s0 h_y4) (aC (show ((some (bx t22 a0) : Option E) = some (E.ren (renL [(1000000, 100)] 903) (bx t22 a0))) from (by kernel_rfl)) (aC hb3 aN)))) ?_
      refine Run.cd true (fun hb => ?_) (fun hb => (by cases hb))
      refine qN [] 1000 ⟨[(6, .nil), (7, .d t2 (15 : Int))], []⟩ aN ?_
      refine Run.rt ?_
      obtain rfl := sI h
      exact qR [(.d t47 ([] : List (Int × Int))), (.d t2 (15 : Int))]
     ·obtain ⟨y5, h_y5, h⟩ := bnd_elim h
      refine qN [(3, .callS [(1000000, bx t22 a0)] [(.d t25 a1), (.d t25 a1), (.ptr 1000000 0)] [(1000000, 100)] (.d t4 y4) [(1000000, bx t22 a0)]), (5, .b false), (9, .callS [(1000000, bx t22 a0)] [(.d t25 a2), (.d t25 a2), (.ptr 1000000 0)] [(1000000, 100)] (.d t4 y5) [(1000000, bx t22 a0)])] 900 ⟨[(3, .ptr 100 0), (4, .ptr 101 0), (5, .ptr 102 0), (8, .fn 36 .vnil (.vcons (.ptr 100 0) .vnil)), (44, .d t4 (!y5))], [(100, bx t22 a0), (101, bx t25 a1), (102, bx t25 a2)]⟩ (aC (show (([(.d t25 a1), (.d t25 a1), (.ptr 100 0)] : List V) = List.map (V.ren (renL [(1000000, 100)] 903)) [(.d t25 a1), (.d t25 a1), (.ptr 1000000 0)]) from (by kernel_rfl)) (aC (c36s0 h_y4) (aC (show ((some (bx t22 a0) : Option E) = some (E.ren (renL [(1000000, 100)] 903) (bx t22 a0))) from (by kernel_rfl)) (aC hb3 (aC (show (([(.d t25 a2), (.d t25 a2), (.ptr 100 0)] : List V) = List.map (V.ren (renL [(1000000, 100)] 909)) [(.d t25 a2), (.d t25 a2), (.ptr 1000000 0)]) from (by kernel_rfl)) (aC (c36s0 h_y5) (aC (show ((some (bx t22 a0) : Option E) = some (E.ren (renL [(1000000, 100)] 909) (bx t22 a0))) from (by kernel_rfl)) aN))))))) ?_
      refine Run.cd (!y5) (fun hb => ?_) (fun hb => ?_)
      ·replace h := bif_t h hb
       refine qN [] 1000 ⟨[(6, .nil), (7, .d t2 (15 : Int))], []⟩ aN ?_
       refine Run.rt ?_
       obtain rfl := sI h
       exact qR [(.d t47 ([] : List (Int × Int))), (.d t2 (15 : Int))]
      ·replace h := bif_f h hb
       refine Run.sk ?_
       show Run Pg 92 _ _ _
       refine Run.sq ?_
       refine qN [] 1100 ⟨[(3, .ptr 100 0), (4, .ptr 101 0), (5, .ptr 102 0), (8, .fn 36 .vnil (.vcons (.ptr 100 0) .vnil)), (47, .d t4 (eqD t25 a1 a2))], [(100, bx t22 a0), (101, bx t25 a1), (102, bx t25 a2)]⟩ aN ?_
       refine Run.cd (eqD t25 a1 a2) (fun hb => ?_) (fun hb => ?_)
       ·replace h := bif_t h hb
        refine qN [] 1200 ⟨[(6, .d t47 ([a1] : List (Int × Int))), (7, .d t2 (0 : Int))], []⟩ aN ?_
        refine Run.rt ?_
        obtain rfl := sI h
        exact qR [(.d t47 ([a1] : List (Int × Int))), (.d t2 (0 : Int))]
       ·replace h := bif_f h hb
        refine Run.sk ?_
        show Run Pg 92 _ _ _
        refine qN [(1, .own)] 1300 ⟨[(3, .ptr 100 0), (5, .ptr 102 0), (8, .fn 36 .vnil (.vcons (.ptr 100 0) .vnil)), (9, .vec 1301 t25)], [(100, bx t22 a0), (102, bx t25 a2), (1301, .vec 26 t25 ([a1] : List (Int × Int)))]⟩ aN ?_
        refine Run.sq ?_
        refine qN [] 1400 ⟨[(5, .ptr 102 0), (8, .fn 36 .vnil (.vcons (.ptr 100 0) .vnil)), (9, .vec 1301 t25), (52, .d t22 a0), (53, .d t2 (ofN (List.length a0))), (54, .d t2 (0 : Int))], [(100, bx t22 a0), (102, bx t25 a2), (1301, .vec 26 t25 ([a1] : List (Int × Int)))]⟩ aN ?_
        refine Run.bl 0 ?_
        obtain ⟨o11, h_o11, h⟩ := bnd_elim h
        refine Run.mono (f16_l0_ok a0 (ofN (List.length a0)) a2 _ (0 : Int) ([a1] : List (Int × Int)) h_o11) ?_
        rintro _ _ ⟨rfl, rfl⟩
        show Run Pg 92 _ _ _
        obtain ⟨g_0, h⟩ := gd_elim h
        refine qN [] 1900 ⟨[(8, .fn 36 .vnil (.vcons (.ptr 100 0) .vnil)), (9, .vec 1301 t25)], [(100, bx t22 a0), (1301, .vec 26 t25 (o11 ++ ([a2] : List (Int × Int))))]⟩ (aC g_0 aN) ?_
        refine Run.freeze (s' := ⟨[(8, .fn 36 .vnil (.vcons (.ptr 100 0) .vnil)), (9, .d t47 (o11 ++ ([a2] : List (Int × Int))))], [(100, bx t22 a0)]⟩) 1301 (by kernel_rfl) ?_
        obtain ⟨y12, h_y12, h⟩ := bnd_elim h
        rcases bif_elim h with ⟨hn_y12, h⟩ | ⟨hn_y12, h⟩
        ·refine qN [(2, .callS [(1000000, bx t22 a0)] [(.d t47 (o11 ++ ([a2] : List (Int × Int)))), (.fn 36 .vnil (.vcons (.ptr 1000000 0) .vnil))] [(1000000, 100)] .nil [(1000000, bx t22 y12.2)])] 2000 ⟨[(12, .nil)], []⟩ (aC (show (([(.d t47 (o11 ++ ([a2] : List (Int × Int)))), (.fn 36 .vnil (.vcons (.ptr 100 0) .vnil))] : List V) = List.map (V.ren (renL [(1000000, 100)] 2002)) [(.d t47 (o11 ++ ([a2] : List (Int × Int)))), (.fn 36 .vnil (.vcons (.ptr 1000000 0) .vnil))]) from (by kernel_rfl)) (aC (show CallSt Pg 38 [(.d t47 (o11 ++ ([a2] : List (Int × Int)))), (.fn 36 .vnil (.vcons (.ptr 1000000 0) .vnil))] [(1000000, bx t22 a0)] .nil [(1000000, bx t22 y12.2)] from (by have q := c38s0 h_y12; rw [nilOr_t hn_y12] at q; exact q)) (aC (show ((some (bx t22 a0) : Option E) = some (E.ren (renL [(1000000, 100)] 2002) (bx t22 a0))) from (by kernel_rfl)) aN))) ?_
         refine Run.sq ?_
         refine qN [] 2100 ⟨[(12, .nil), (90, .d t4 true)], []⟩ aN ?_
         refine Run.cd true (fun hb => ?_) (fun hb => (by cases hb))
         refine qN [] 2200 ⟨[(6, .nil), (7, .d t2 (16 : Int))], []⟩ aN ?_
         refine Run.rt ?_
         obtain rfl := sI h
         exact qR [(.d t47 ([] : List (Int × Int))), (.d t2 (16 : Int))]
        ·refine qN [(2, .callS [(1000000, bx t22 a0)] [(.d t47 (o11 ++ ([a2] : List (Int × Int)))), (.fn 36 .vnil (.vcons (.ptr 1000000 0) .vnil))] [(1000000, 100)] (.d t47 y12.1) [(1000000, bx t22 y12.2)])] 2000 ⟨[(12, .d t47 y12.1)], []⟩ (aC (show (([(.d t47 (o11 ++ ([a2] : List (Int × Int)))), (.fn 36 .vnil (.vcons (.ptr 100 0) .vnil))] : List V) = List.map (V.ren (renL [(1000000, 100)] 2002)) [(.d t47 (o11 ++ ([a2] : List (Int × Int)))), (.fn 36 .vnil (.vcons (.ptr 1000000 0) .vnil))]) from (by kernel_rfl)) (aC (show CallSt Pg 38 [(.d t47 (o11 ++ ([a2] : List (Int × Int)))), (.fn 36 .vnil (.vcons (.ptr 1000000 0) .vnil))] [(1000000, bx t22 a0)] (.d t47 y12.1) [(1000000, bx t22 y12.2)] from (by have q := c38s0 h_y12; rw [nilOr_f hn_y12] at q; exact q)) (aC (show ((some (bx t22 a0) : Option E) = some (E.ren (renL [(1000000, 100)] 2002) (bx t22 a0))) from (by kernel_rfl)) aN))) ?_
         refine Run.sq ?_
         refine qN [] 2100 ⟨[(12, .d t47 y12.1), (90, .d t4 false)], []⟩ (aC (ne_of_isEmpty hn_y12) aN) ?_
         refine Run.cd false (fun hb => (by cases hb)) (fun hb => ?_)
         refine Run.sk ?_
         show Run Pg 92 _ _ _
         refine qN [] 2300 ⟨[(6, .d t47 y12.1), (7, .d t2 (0 : Int))], []⟩ aN ?_
         refine Run.rt ?_
         obtain rfl := sI h
         exact qR [(.d t47 y12.1), (.d t2 (0 : Int))]

/-! ## f58 -/

noncomputable def c_58 : Code := body0 Go.Proofs.Tryz.f58

def fin58 (r : Bool) : Ex → St → Prop := endK X0 [.tmp 4] [4] (.d t4 r)

def F58 (a0 : Int × Int × Int × Int × Int) (a1 : Int × Int) : Option (Bool) :=
 (bif (decide (a0.1 ≤ a1.1)) then
 (bif (decide (a1.1 ≤ a0.2.2.1)) then
 (bif (decide (a0.2.1 ≤ a1.2)) then
 some (decide (a1.2 ≤ a0.2.2.2.1))
 else
 some false)
 else
 some false)
 else
 some false)

theorem c58 {a0 : Int × Int × Int × Int × Int} {a1 : Int × Int} {r : Bool} (h : F58 a0 a1 = some r) : CallPure Pg 58 [(.d t33 a0), (.d t25 a1)] (.d t4 r) := by
 refine qC c_58 31 [.tmp 4] [4] Go.Proofs.Tryz.func58 ?_
 show Run Pg 31 c_58 ⟨[(0, .d t33 a0), (1, .d t25 a1)], []⟩ (fin58 r)
 unfold F58 at h
 refine qN [] 100 ⟨[(2, .ptr 100 0), (3, .ptr 101 0)], [(100, bx t33 a0), (101, bx t25 a1)]⟩ aN ?_
 rcases bif_elim h with ⟨hb0, h⟩ | ⟨hb0, h⟩
 ·rcases bif_elim h with ⟨hb1, h⟩ | ⟨hb1, h⟩
  ·rcases bif_elim h with ⟨hb2, h⟩ | ⟨hb2, h⟩
   ·refine qN [(5, .b true), (12, .b true), (19, .b true)] 200 ⟨[(4, .d t4 (decide (a1.2 ≤ a0.2.2.2.1)))], []⟩ (aC hb0 (aC hb1 (aC hb2 aN))) ?_
    refine Run.rt ?_
    obtain rfl := sI h
    exact qR [(.d t4 (decide (a1.2 ≤ a0.2.2.2.1)))]
   ·refine qN [(5, .b true), (12, .b true), (19, .b false)] 200 ⟨[(4, .d t4 false)], []⟩ (aC hb0 (aC hb1 (aC hb2 aN))) ?_
    refine Run.rt ?_
    obtain rfl := sI h
    exact qR [(.d t4 false)]
  ·refine qN [(5, .b true), (12, .b false)] 200 ⟨[(4, .d t4 false)], []⟩ (aC hb0 (aC hb1 aN)) ?_
   refine Run.rt ?_
   obtain rfl := sI h
   exact qR [(.d t4 false)]
 ·refine qN [(5, .b false)] 200 ⟨[(4, .d t4 false)], []⟩ (aC hb0 aN) ?_
  refine Run.rt ?_
  obtain rfl := sI h
  exact qR [(.d t4 false)]

/-! ## f90 -/

noncomputable def c_90 : Code := body0 Go.Proofs.Tryz.f90

def fin90 (r : (List Int)) : Ex → St → Prop := endK X0 [.tmp 2] [83] (.d t83 r)

def F90 (a0 : Int) : Option ((List Int)) :=
 some ([(wrapI .u32 (Int.tmod a0 (1000000000 : Int))), (wrapI .u32 (Int.tmod (wrapI .u64 (Int.tdiv a0 (1000000000 : Int))) (1000000000 : Int))), (wrapI .u32 (wrapI .u64 (Int.tdiv (wrapI .u64 (Int.tdiv a0 (1000000000 : Int))) (1000000000 : Int))))] : List Int)

theorem c90 {a0 : Int} {r : (List Int)} (h : F90 a0 = some r) : CallPure Pg 90 [(.d t12 a0)] (.d t83 r) := by
 refine qC c_90 15 [.tmp 2] [83] Go.Proofs.Tryz.func90 ?_
 show Run Pg 15 c_90 ⟨[(0, .d t12 a0)], []⟩ (fin90 r)
 unfold F90 at h
 refine qN [] 100 ⟨[(0, .d t12 a0)], []⟩ aN ?_
 refine qN [] 200 ⟨[(2, .d t83 ([(wrapI .u32 (Int.tmod a0 (1000000000 : Int))), (wrapI .u32 (Int.tmod (wrapI .u64 (Int.tdiv a0 (1000000000 : Int))) (1000000000 : Int))), (wrapI .u32 (wrapI .u64 (Int.tdiv (wrapI .u64 (Int.tdiv a0 (1000000000 : Int))) (1000000000 : Int))))] : List Int))], []⟩ (aC (show ((1000000000 : Int) ≠ 0) from (by decide)) (aC (show ((1000000000 : Int) ≠ 0) from (by decide)) (aC (show ((1000000000 : Int) ≠ 0) from (by decide)) (aC (show ((1000000000 : Int) ≠ 0) from (by decide)) (aC (show ((1000000000 : Int) ≠ 0) from (by decide)) aN))))) ?_
 refine Run.rt ?_
 obtain rfl := sI h
 exact qR [(.d t83 ([(wrapI .u32 (Int.tmod a0 (1000000000 : Int))), (wrapI .u32 (Int.tmod (wrapI .u64 (Int.tdiv a0 (1000000000 : Int))) (1000000000 : Int))), (wrapI .u32 (wrapI .u64 (Int.tdiv (wrapI .u64 (Int.tdiv a0 (1000000000 : Int))) (1000000000 : Int))))] : List Int))]

/-! ## f89 -/

noncomputable def c_89 : Code := body0 Go.Proofs.Tryz.f89

def fin89 (r : IntL) : Ex → St → Prop := endK X0 [.cell 4 85] [85] (.d t84 r)

def f89_l0_post (x1 : Bool) (x2 : List Int) (x4 : IntL) : (Int) → Ex → St → Prop
 | o, x, s => x = .out 0 ∧ s = ⟨[(0, .d t4 x1), (1, .d t83 x2), (4, .ptr 100 0), (5, .d t2 o)], [(100, bx t84 x4)]⟩

def f89_l0_b (x2 : List Int) (again : Int → Option (Int)) : Int → Option (Int)
 | x3 =>
 (bif (decide ((0 : Int) < x3)) then
 gd (0 ≤ (wrapI .i64 (x3 - (1 : Int)))) <|
 gd ((wrapI .i64 (x3 - (1 : Int))) < ((List.length x2 : Nat) : Int)) <|
 (bif ((List.getD x2 (toN (wrapI .i64 (x3 - (1 : Int)))) (0 : Int)) == (0 : Int)) then
 again (wrapI .i64 (x3 - (1 : Int)))
 else
 some x3)
 else
 some x3)

def f89_l0 (x2 : List Int) : Nat → Int → Option (Int) := loopF (f89_l0_b x2)

theorem f89_l0_ok (x1 : Bool) (x2 : List Int) (x4 : IntL) (k : Nat) (x3 : Int) {out : (Int)} (h : f89_l0 x2 k x3 = some out) : Run Pg 30 (bk1 (sq1 (sq2 (sq2 c_89)))) ⟨[(0, .d t4 x1), (1, .d t83 x2), (4, .ptr 100 0), (5, .d t2 x3)], [(100, bx t84 x4)]⟩ (f89_l0_post x1 x2 x4 out) := by
 refine Run.loopN (by kernel_rfl) (fun m s => ∃ x3, s = ⟨[(0, .d t4 x1), (1, .d t83 x2), (4, .ptr 100 0), (5, .d t2 x3)], [(100, bx t84 x4)]⟩ ∧ f89_l0 x2 m x3 = some out) ?_ k ⟨x3,  rfl, h⟩
 rintro m s ⟨x3,  rfl, h⟩
 cases m with
 | zero => cases h
 | succ m =>
 replace h : f89_l0_b x2 (f89_l0 x2 m) x3 = some out := h
 unfold f89_l0_b at h
 refine Run.sq ?_
 rcases bif_elim h with ⟨hb0, h⟩ | ⟨hb0, h⟩
 ·obtain ⟨g_1, h⟩ := gd_elim h
  obtain ⟨g_2, h⟩ := gd_elim h
  refine qN [(2, .b true)] 300 ⟨[(0, .d t4 x1), (1, .d t83 x2), (4, .ptr 100 0), (5, .d t2 x3), (17, .d t4 ((List.getD x2 (toN (wrapI .i64 (x3 - (1 : Int)))) (0 : Int)) == (0 : Int)))], [(100, bx t84 x4)]⟩ (aC hb0 (aC g_1 (aC g_2 aN))) ?_
  refine Run.cd ((List.getD x2 (toN (wrapI .i64 (x3 - (1 : Int)))) (0 : Int)) == (0 : Int)) (fun hb => ?_) (fun hb => ?_)
  ·replace h := bif_t h hb
   refine Run.sk ?_
   show Run Pg 30 _ _ _
   refine Run.bl 1 ?_
   refine qE [] 400 ⟨[(0, .d t4 x1), (1, .d t83 x2), (4, .ptr 100 0), (5, .d t2 (wrapI .i64 (x3 - (1 : Int))))], [(100, bx t84 x4)]⟩ aN ?_
   exact ⟨m, Nat.lt_succ_self m, _, rfl, h⟩
  ·replace h := bif_f h hb
   refine qK ⟨[(0, .d t4 x1), (1, .d t83 x2), (4, .ptr 100 0), (5, .d t2 x3)], [(100, bx t84 x4)]⟩ ?_
   refine Run.ex 0 ?_
   obtain rfl := sI h
   exact ⟨rfl, by kernel_rfl⟩
 ·refine qN [(2, .b false)] 300 ⟨[(0, .d t4 x1), (1, .d t83 x2), (4, .ptr 100 0), (5, .d t2 x3), (17, .d t4 false)], [(100, bx t84 x4)]⟩ (aC hb0 aN) ?_
  refine Run.cd false (fun hb => (by cases hb)) (fun hb => ?_)
  refine qK ⟨[(0, .d t4 x1), (1, .d t83 x2), (4, .ptr 100 0), (5, .d t2 x3)], [(100, bx t84 x4)]⟩ ?_
  refine Run.ex 0 ?_
  obtain rfl := sI h
  exact ⟨rfl, by kernel_rfl⟩

def F89 (a0 : Bool) (a1 : List Int) : Option (IntL) :=
 ((f89_l0 a1 (2 + List.length a1) (ofN (List.length a1))).bind fun o5 =>
 (bif a0 then
 gd (0 ≤ o5) <|
 gd (o5 ≤ o5) <|
 gd (o5 ≤ ((List.length a1 : Nat) : Int)) <|
 some ((decide ((0 : Int) < o5)), (List.take (Int.toNat o5) a1))
 else
 gd (0 ≤ o5) <|
 gd (o5 ≤ o5) <|
 gd (o5 ≤ ((List.length a1 : Nat) : Int)) <|
 some (false, (List.take (Int.toNat o5) a1))))

theorem c89 {a0 : Bool} {a1 : List Int} {r : IntL} (h : F89 a0 a1 = some r) : CallPure Pg 89 [(.d t4 a0), (.d t83 a1)] (.d t84 r) := by
 refine qC c_89 30 [.cell 4 85] [85] Go.Proofs.Tryz.func89 ?_
 show Run Pg 30 c_89 ⟨[(0, .d t4 a0), (1, .d t83 a1)], []⟩ (fin89 r)
 unfold F89 at h
 refine qN [] 100 ⟨[(0, .d t4 a0), (1, .d t83 a1), (4, .ptr 100 0)], [(100, bx t84 (false, ([] : List Int)))]⟩ aN ?_
 refine qN [] 200 ⟨[(0, .d t4 a0), (1, .d t83 a1), (4, .ptr 100 0), (5, .d t2 (ofN (List.length a1)))], [(100, bx t84 (false, ([] : List Int)))]⟩ aN ?_
 refine Run.sq ?_
 refine Run.bl 0 ?_
 obtain ⟨o5, h_o5, h⟩ := bnd_elim h
 refine Run.mono (f89_l0_ok a0 a1 (false, ([] : List Int)) _ (ofN (List.length a1)) h_o5) ?_
 rintro _ _ ⟨rfl, rfl⟩
 show Run Pg 30 _ _ _
 rcases bif_elim h with ⟨hb0, h⟩ | ⟨hb0, h⟩
 ·obtain ⟨g_1, h⟩ := gd_elim h
  obtain ⟨g_2, h⟩ := gd_elim h
  obtain ⟨g_3, h⟩ := gd_elim h
  refine qN [(1, .b true)] 500 ⟨[(4, .ptr 100 0)], [(100, bx t84 ((decide ((0 : Int) < o5)), (List.take (Int.toNat o5) a1)))]⟩ (aC hb0 (aC g_1 (aC g_2 (aC g_3 aN)))) ?_
  refine Run.rt ?_
  obtain rfl := sI h
  exact qR [(.d t84 ((decide ((0 : Int) < o5)), (List.take (Int.toNat o5) a1)))]
 ·obtain ⟨g_1, h⟩ := gd_elim h
  obtain ⟨g_2, h⟩ := gd_elim h
  obtain ⟨g_3, h⟩ := gd_elim h
  refine qN [(1, .b false)] 500 ⟨[(4, .ptr 100 0)], [(100, bx t84 (false, (List.take (Int.toNat o5) a1)))]⟩ (aC hb0 (aC g_1 (aC g_2 (aC g_3 aN)))) ?_
  refine Run.rt ?_
  obtain rfl := sI h
  exact qR [(.d t84 (false, (List.take (Int.toNat o5) a1)))]

/-! ## f73 -/

noncomputable def c_73 : Code := body0 Go.Proofs.Tryz.f73

def fin73 (r : IntL) : Ex → St → Prop := endK X0 [.cell 2 85] [85] (.d t84 r)

def f73_c0_post (x1 : Int) (x2 : Int) (x3 : Bool) (x4 : IntL) : (Int) → Ex → St → Prop
 | o, x, s => x = .nrm ∧ s = ⟨[(0, .d t2 x1), (2, .ptr 100 0), (3, .d t12 o)], [(100, bx t84 x4)]⟩

def f73_c0 (x2 : Int) (x3 : Bool) : Option (Int) :=
 (bif x3 then
 some (wrapI .u64 (0 - x2))
 else
 some x2)

theorem f73_c0_ok (x1 : Int) (x2 : Int) (x3 : Bool) (x4 : IntL) {out : (Int)} (h : f73_c0 x2 x3 = some out) : Run Pg 15 (sq2 (sq1 (sq2 (sq2 c_73)))) ⟨[(0, .d t2 x1), (2, .ptr 100 0), (3, .d t12 x2), (7, .d t4 x3)], [(100, bx t84 x4)]⟩ (f73_c0_post x1 x2 x3 x4 out) := by
 unfold f73_c0 at h
 refine Run.cd x3 (fun hb => ?_) (fun hb => ?_)
 ·replace h := bif_t h hb
  refine qE [] 400 ⟨[(0, .d t2 x1), (2, .ptr 100 0), (3, .d t12 (wrapI .u64 (0 - x2)))], [(100, bx t84 x4)]⟩ aN ?_
  obtain rfl := sI h
  exact ⟨rfl, by kernel_rfl⟩
 ·replace h := bif_f h hb
  refine qK ⟨[(0, .d t2 x1), (2, .ptr 100 0), (3, .d t12 x2)], [(100, bx t84 x4)]⟩ ?_
  refine Run.sk ?_
  obtain rfl := sI h
  exact ⟨rfl, by kernel_rfl⟩

def F73 (a0 : Int) : Option (IntL) :=
 ((f73_c0 (wrapI .u64 a0) (decide (a0 < (0 : Int)))).bind fun o5 =>
 (F90 o5).bind fun y6 =>
 (F89 (decide (a0 < (0 : Int))) y6).bind fun y7 =>
 some y7)

theorem c73 {a0 : Int} {r : IntL} (h : F73 a0 = some r) : CallPure Pg 73 [(.d t2 a0)] (.d t84 r) := by
 refine qC c_73 15 [.cell 2 85] [85] Go.Proofs.Tryz.func73 ?_
 show Run Pg 15 c_73 ⟨[(0, .d t2 a0)], []⟩ (fin73 r)
 unfold F73 at h
 refine qN [] 100 ⟨[(0, .d t2 a0), (2, .ptr 100 0)], [(100, bx t84 (false, ([] : List Int)))]⟩ aN ?_
 refine qN [] 200 ⟨[(0, .d t2 a0), (2, .ptr 100 0), (3, .d t12 (wrapI .u64 a0))], [(100, bx t84 (false, ([] : List Int)))]⟩ aN ?_
 refine Run.sq ?_
 refine qN [] 300 ⟨[(0, .d t2 a0), (2, .ptr 100 0), (3, .d t12 (wrapI .u64 a0)), (7, .d t4 (decide (a0 < (0 : Int))))], [(100, bx t84 (false, ([] : List Int)))]⟩ aN ?_
 obtain ⟨o5, h_o5, h⟩ := bnd_elim h
 refine Run.mono (f73_c0_ok a0 (wrapI .u64 a0) (decide (a0 < (0 : Int))) (false, ([] : List Int)) h_o5) ?_
 rintro _ _ ⟨rfl, rfl⟩
 show Run Pg 15 _ _ _
 obtain ⟨y6, h_y6, h⟩ := bnd_elim h
 obtain ⟨y7, h_y7, h⟩ := bnd_elim h
 refine qN [(3, .call (.d t83 y6)), (4, .call (.d t84 y7))] 500 ⟨[(2, .ptr 100 0)], [(100, bx t84 y7)]⟩ (aC (c90 h_y6) (aC (c89 h_y7) aN)) ?_
 refine Run.rt ?_
 obtain rfl := sI h
 exact qR [(.d t84 y7)]

/-! ## f88 -/

noncomputable def c_88 : Code := body0 Go.Proofs.Tryz.f88

def fin88 (r : IntL) : Ex → St → Prop := endK X0 [.cell 0 85] [85] (.d t84 r)

def F88  : Option (IntL) :=
 (F73 (1 : Int)).bind fun y1 =>
 some y1

theorem c88  {r : IntL} (h : F88  = some r) : CallPure Pg 88 [] (.d t84 r) := by
 refine qC c_88 2 [.cell 0 85] [85] Go.Proofs.Tryz.func88 ?_
 show Run Pg 2 c_88 ⟨[], []⟩ (fin88 r)
 unfold F88 at h
 refine qN [] 100 ⟨[(0, .ptr 100 0)], [(100, bx t84 (false, ([] : List Int)))]⟩ aN ?_
 obtain ⟨y1, h_y1, h⟩ := bnd_elim h
 refine qN [(0, .call (.d t84 y1))] 200 ⟨[(0, .ptr 100 0)], [(100, bx t84 y1)]⟩ (aC (c73 h_y1) aN) ?_
 refine Run.rt ?_
 obtain rfl := sI h
 exact qR [(.d t84 y1)]

/-! ## f72 -/

noncomputable def c_72 : Code := body0 Go.Proofs.Tryz.f72

def fin72 (r : RatL) : Ex → St → Prop := endK X0 [.cell 2 87] [87] (.d t86 r)

def F72 (a0 : IntL) : Option RatL :=
 (F88 ).bind fun y1 =>
 some (a0, y1)

theorem c72 {a0 : IntL} {r : RatL} (h : F72 a0 = some r) : CallPure Pg 72 [(.d t84 a0)] (.d t86 r) := by
 refine qC c_72 6 [.cell 2 87] [87] Go.Proofs.Tryz.func72 ?_
 show Run Pg 6 c_72 ⟨[(0, .d t84 a0)], []⟩ (fin72 r)
 unfold F72 at h
 refine qN [] 100 ⟨[(1, .ptr 100 0), (2, .ptr 101 0)], [(100, bx t84 a0), (101, bx t86 ((false, ([] : List Int)), (false, ([] : List Int))))]⟩ aN ?_
 obtain ⟨y1, h_y1, h⟩ := bnd_elim h
 refine qN [(1, .call (.d t84 y1))] 200 ⟨[(2, .ptr 101 0)], [(101, bx t86 (a0, y1))]⟩ (aC (c88 h_y1) aN) ?_
 refine Run.rt ?_
 obtain rfl := sI h
 exact qR [(.d t86 (a0, y1))]

/-! ## f59 -/

noncomputable def c_59 : Code := body0 Go.Proofs.Tryz.f59

def fin59 (r : RatL) : Ex → St → Prop := endK X0 [.cell 2 87] [87] (.d t86 r)

def F59 (a0 : Int) : Option RatL :=
 (F73 a0).bind fun y1 =>
 (F72 y1).bind fun y2 =>
 some y2

theorem c59 {a0 : Int} {r : RatL} (h : F59 a0 = some r) : CallPure Pg 59 [(.d t2 a0)] (.d t86 r) := by
 refine qC c_59 6 [.cell 2 87] [87] Go.Proofs.Tryz.func59 ?_
 show Run Pg 6 c_59 ⟨[(0, .d t2 a0)], []⟩ (fin59 r)
 unfold F59 at h
 refine qN [] 100 ⟨[(0, .d t2 a0), (2, .ptr 100 0)], [(100, bx t86 ((false, ([] : List Int)), (false, ([] : List Int))))]⟩ aN ?_
 obtain ⟨y1, h_y1, h⟩ := bnd_elim h
 obtain ⟨y2, h_y2, h⟩ := bnd_elim h
 refine qN [(1, .call (.d t84 y1)), (2, .call (.d t86 y2))] 200 ⟨[(2, .ptr 100 0)], [(100, bx t86 y2)]⟩ (aC (c73 h_y1) (aC (c72 h_y2) aN)) ?_
 refine Run.rt ?_
 obtain rfl := sI h
 exact qR [(.d t86 y2)]

/-! ## f95 -/

noncomputable def c_95 : Code := body0 Go.Proofs.Tryz.f95

def fin95 (r : (List Int)) : Ex → St → Prop := endK X0 [.tmp 4] [83] (.d t83 r)

def f95_l1_post (x16 : List Int) (x17 : Int) (x18 : Int) (x20 : List Int) (x21 : Int) (x22 : Int) : (Int × (List Int)) → Ex → St → Prop
 | o, x, s => x = .out 2 ∧ s = ⟨[(1, .d t83 x16), (5, .vec 205 t127), (6, .d t2 x17), (8, .d t12 o.1), (18, .d t83 x20), (19, .d t2 x21), (20, .d t2 x17)], [(205, .vec 127 t127 o.2)]⟩

def f95_l1_b (x16 : List Int) (x17 : Int) (x18 : Int) (x22 : Int) (again : Int × Int × (List Int) → Option (Int × (List Int))) : Int × Int × (List Int) → Option (Int × (List Int))
 | (x19, x23, x24) =>
 (bif (decide (x23 < x22)) then
 gd (0 ≤ x23) <|
 gd (x23 < ((List.length x16 : Nat) : Int)) <|
 gd (0 ≤ (wrapI .i64 (x17 + x23))) <|
 gd ((wrapI .i64 (x17 + x23)) < ((List.length x24 : Nat) : Int)) <|
 gd ((toN (wrapI .i64 (x17 + x23))) < List.length x24) <|
 gd (0 ≤ (wrapI .i64 (x17 + x23))) <|
 gd ((wrapI .i64 (x17 + x23)) < ((List.length x24 : Nat) : Int)) <|
 gd ((toN (wrapI .i64 (x17 + x23))) < List.length x24) <|
 again ((wrapI .u64 (Int.tdiv (wrapI .u64 ((wrapI .u64 ((wrapI .u64 (List.getD x24 (toN (wrapI .i64 (x17 + x23))) (0 : Int))) + (wrapI .u64 ((wrapI .u64 x18) * (wrapI .u64 (List.getD x16 (toN x23) (0 : Int))))))) + x19)) (1000000000 : Int))), (wrapI .i64 (x23 + (1 : Int))), (List.set x24 (toN (wrapI .i64 (x17 + x23))) (wrapI .u32 (Int.tmod (wrapI .u64 ((wrapI .u64 ((wrapI .u64 (List.getD x24 (toN (wrapI .i64 (x17 + x23))) (0 : Int))) + (wrapI .u64 ((wrapI .u64 x18) * (wrapI .u64 (List.getD x16 (toN x23) (0 : Int))))))) + x19)) (1000000000 : Int)))))
 else
 some (x19, x24))

def f95_l1 (x16 : List Int) (x17 : Int) (x18 : Int) (x22 : Int) : Nat → Int × Int × (List Int) → Option (Int × (List Int)) := loopF (f95_l1_b x16 x17 x18 x22)

theorem f95_l1_ok (x16 : List Int) (x17 : Int) (x18 : Int) (x20 : List Int) (x21 : Int) (x22 : Int) (k : Nat) (x19 : Int) (x23 : Int) (x24 : List Int) {out : (Int × (List Int))} (h : f95_l1 x16 x17 x18 x22 k (x19, x23, x24) = some out) : Run Pg 68 (bk1 (sq2 (sq1 (sq2 (sq2 (bk1 (sq1 (sq2 (sq2 (lp1 (bk1 (sq2 (sq1 (sq2 (sq2 c_95))))))))))))))) ⟨[(1, .d t83 x16), (5, .vec 205 t127), (6, .d t2 x17), (7, .d t127 x18), (8, .d t12 x19), (18, .d t83 x20), (19, .d t2 x21), (20, .d t2 x17), (25, .d t83 x16), (26, .d t2 x22), (27, .d t2 x23)], [(205, .vec 127 t127 x24)]⟩ (f95_l1_post x16 x17 x18 x20 x21 x22 out) := by
 refine Run.loopN (by kernel_rfl) (fun m s => ∃ x19 x23 x24, s = ⟨[(1, .d t83 x16), (5, .vec 205 t127), (6, .d t2 x17), (7, .d t127 x18), (8, .d t12 x19), (18, .d t83 x20), (19, .d t2 x21), (20, .d t2 x17), (25, .d t83 x16), (26, .d t2 x22), (27, .d t2 x23)], [(205, .vec 127 t127 x24)]⟩ ∧ f95_l1 x16 x17 x18 x22 m (x19, x23, x24) = some out) ?_ k ⟨x19, x23, x24,  rfl, h⟩
 rintro m s ⟨x19, x23, x24,  rfl, h⟩
 cases m with
 | zero => cases h
 | succ m =>
 replace h : f95_l1_b x16 x17 x18 x22 (f95_l1 x16 x17 x18 x22 m) (x19, x23, x24) = some out := h
 unfold f95_l1_b at h
 refine qN [] 800 ⟨[(1, .d t83 x16), (5, .vec 205 t127), (6, .d t2 x17), (7, .d t127 x18), (8, .d t12 x19), (18, .d t83 x20), (19, .d t2 x21), (20, .d t2 x17), (25, .d t83 x16), (26, .d t2 x22), (27, .d t2 x23), (28, .d t4 (decide (x23 < x22)))], [(205, .vec 127 t127 x24)]⟩ aN ?_
 refine Run.sq ?_
 refine Run.cd (decide (x23 < x22)) (fun hb => ?_) (fun hb => ?_)
 ·replace h := bif_t h hb
  refine Run.sk ?_
  show Run Pg 68 _ _ _
  refine Run.sq ?_
  refine Run.bl 3 ?_
  obtain ⟨g_0, h⟩ := gd_elim h
  obtain ⟨g_1, h⟩ := gd_elim h
  refine qN [] 900 ⟨[(1, .d t83 x16), (5, .vec 205 t127), (6, .d t2 x17), (7, .d t127 x18), (8, .d t12 x19), (9, .d t2 x23), (10, .d t127 (List.getD x16 (toN x23) (0 : Int))), (18, .d t83 x20), (19, .d t2 x21), (20, .d t2 x17), (25, .d t83 x16), (26, .d t2 x22), (27, .d t2 x23)], [(205, .vec 127 t127 x24)]⟩ (aC g_0 (aC g_1 aN)) ?_
  obtain ⟨g_0, h⟩ := gd_elim h
  obtain ⟨g_1, h⟩ := gd_elim h
  obtain ⟨g_2, h⟩ := gd_elim h
  refine qN [] 1000 ⟨[(1, .d t83 x16), (5, .vec 205 t127), (6, .d t2 x17), (7, .d t127 x18), (9, .d t2 x23), (11, .d t12 (wrapI .u64 ((wrapI .u64 ((wrapI .u64 (List.getD x24 (toN (wrapI .i64 (x17 + x23))) (0 : Int))) + (wrapI .u64 ((wrapI .u64 x18) * (wrapI .u64 (List.getD x16 (toN x23) (0 : Int))))))) + x19))), (18, .d t83 x20), (19, .d t2 x21), (20, .d t2 x17), (25, .d t83 x16), (26, .d t2 x22), (27, .d t2 x23)], [(205, .vec 127 t127 x24)]⟩ (aC g_0 (aC g_1 (aC g_2 aN))) ?_
  obtain ⟨g_2, h⟩ := gd_elim h
  obtain ⟨g_3, h⟩ := gd_elim h
  obtain ⟨g_4, h⟩ := gd_elim h
  refine qE [] 1100 ⟨[(1, .d t83 x16), (5, .vec 205 t127), (6, .d t2 x17), (7, .d t127 x18), (8, .d t12 (wrapI .u64 (Int.tdiv (wrapI .u64 ((wrapI .u64 ((wrapI .u64 (List.getD x24 (toN (wrapI .i64 (x17 + x23))) (0 : Int))) + (wrapI .u64 ((wrapI .u64 x18) * (wrapI .u64 (List.getD x16 (toN x23) (0 : Int))))))) + x19)) (1000000000 : Int)))), (18, .d t83 x20), (19, .d t2 x21), (20, .d t2 x17), (25, .d t83 x16), (26, .d t2 x22), (27, .d t2 x23)], [(205, .vec 127 t127 (List.set x24 (toN (wrapI .i64 (x17 + x23))) (wrapI .u32 (Int.tmod (wrapI .u64 ((wrapI .u64 ((wrapI .u64 (List.getD x24 (toN (wrapI .i64 (x17 + x23))) (0 : Int))) + (wrapI .u64 ((wrapI .u64 x18) * (wrapI .u64 (List.getD x16 (toN x23) (0 : Int))))))) + x19)) (1000000000 : Int)))))]⟩ (aC (show ((1000000000 : Int) ≠ 0) from (by decide)) (aC (show ((1000000000 : Int) ≠ 0) from (by decide)) (aC g_2 (aC g_3 (aC g_4 aN))))) ?_
  show Run Pg 68 _ _ _
  refine qE [] 1200 ⟨[(1, .d t83 x16), (5, .vec 205 t127), (6, .d t2 x17), (7, .d t127 x18), (8, .d t12 (wrapI .u64 (Int.tdiv (wrapI .u64 ((wrapI .u64 ((wrapI .u64 (List.getD x24 (toN (wrapI .i64 (x17 + x23))) (0 : Int))) + (wrapI .u64 ((wrapI .u64 x18) * (wrapI .u64 (List.getD x16 (toN x23) (0 : Int))))))) + x19)) (1000000000 : Int)))), (18, .d t83 x20), (19, .d t2 x21), (20, .d t2 x17), (25, .d t83 x16), (26, .d t2 x22), (27, .d t2 (wrapI .i64 (x23 + (1 : Int))))], [(205, .vec 127 t127 (List.set x24 (toN (wrapI .i64 (x17 + x23))) (wrapI .u32 (Int.tmod (wrapI .u64 ((wrapI .u64 ((wrapI .u64 (List.getD x24 (toN (wrapI .i64 (x17 + x23))) (0 : Int))) + (wrapI .u64 ((wrapI .u64 x18) * (wrapI .u64 (List.getD x16 (toN x23) (0 : Int))))))) + x19)) (1000000000 : Int)))))]⟩ aN ?_
  exact ⟨m, Nat.lt_succ_self m, _, _, _, rfl, h⟩
 ·replace h := bif_f h hb
  refine qK ⟨[(1, .d t83 x16), (5, .vec 205 t127), (6, .d t2 x17), (8, .d t12 x19), (18, .d t83 x20), (19, .d t2 x21), (20, .d t2 x17)], [(205, .vec 127 t127 x24)]⟩ ?_
  refine Run.ex 2 ?_
  obtain rfl := sI h
  exact ⟨rfl, by kernel_rfl⟩

def f95_l0_post (x1 : List Int) (x2 : List Int) (x3 : Int) : ((List Int)) → Ex → St → Prop
 | o, x, s => x = .out 0 ∧ s = ⟨[(5, .vec 205 t127)], [(205, .vec 127 t127 o)]⟩

def f95_l0_b (x1 : List Int) (x2 : List Int) (x3 : Int) (again : Int × (List Int) → Option ((List Int))) : Int × (List Int) → Option ((List Int))
 | (x4, x5) =>
 (bif (decide (x4 < x3)) then
 gd (0 ≤ x4) <|
 gd (x4 < ((List.length x2 : Nat) : Int)) <|
 ((f95_l1 x1 x4 (List.getD x2 (toN x4) (0 : Int)) (ofN (List.length x1)) (2 + List.length x1 + List.length x2 + List.length x5) ((0 : Int), (0 : Int), x5)).bind fun o25 =>
 gd (0 ≤ (wrapI .i64 (x4 + (ofN (List.length x1))))) <|
 gd ((wrapI .i64 (x4 + (ofN (List.length x1)))) < ((List.length o25.2 : Nat) : Int)) <|
 gd ((toN (wrapI .i64 (x4 + (ofN (List.length x1))))) < List.length o25.2) <|
 again ((wrapI .i64 (x4 + (1 : Int))), (List.set o25.2 (toN (wrapI .i64 (x4 + (ofN (List.length x1))))) (wrapI .u32 o25.1))))
 else
 some x5)

def f95_l0 (x1 : List Int) (x2 : List Int) (x3 : Int) : Nat → Int × (List Int) → Option ((List Int)) := loopF (f95_l0_b x1 x2 x3)

theorem f95_l0_ok (x1 : List Int) (x2 : List Int) (x3 : Int) (k : Nat) (x4 : Int) (x5 : List Int) {out : ((List Int))} (h : f95_l0 x1 x2 x3 k (x4, x5) = some out) : Run Pg 68 (bk1 (sq2 (sq1 (sq2 (sq2 c_95))))) ⟨[(1, .d t83 x1), (5, .vec 205 t127), (18, .d t83 x2), (19, .d t2 x3), (20, .d t2 x4)], [(205, .vec 127 t127 x5)]⟩ (f95_l0_post x1 x2 x3 out) := by
 refine Run.loopN (by kernel_rfl) (fun m s => ∃ x4 x5, s = ⟨[(1, .d t83 x1), (5, .vec 205 t127), (18, .d t83 x2), (19, .d t2 x3), (20, .d t2 x4)], [(205, .vec 127 t127 x5)]⟩ ∧ f95_l0 x1 x2 x3 m (x4, x5) = some out) ?_ k ⟨x4, x5,  rfl, h⟩
 rintro m s ⟨x4, x5,  rfl, h⟩
 cases m with
 | zero => cases h
 | succ m =>
 replace h : f95_l0_b x1 x2 x3 (f95_l0 x1 x2 x3 m) (x4, x5) = some out := h
 unfold f95_l0_b at h
 refine qN [] 400 ⟨[(1, .d t83 x1), (5, .vec 205 t127), (18, .d t83 x2), (19, .d t2 x3), (20, .d t2 x4), (21, .d t4 (decide (x4 < x3)))], [(205, .vec 127 t127 x5)]⟩ aN ?_
 refine Run.sq ?_
 refine Run.cd (decide (x4 < x3)) (fun hb => ?_) (fun hb => ?_)
 ·replace h := bif_t h hb
  refine Run.sk ?_
  show Run Pg 68 _ _ _
  refine Run.sq ?_
  refine Run.bl 1 ?_
  obtain ⟨g_0, h⟩ := gd_elim h
  obtain ⟨g_1, h⟩ := gd_elim h
  refine qN [] 500 ⟨[(1, .d t83 x1), (5, .vec 205 t127), (6, .d t2 x4), (7, .d t127 (List.getD x2 (toN x4) (0 : Int))), (18, .d t83 x2), (19, .d t2 x3), (20, .d t2 x4)], [(205, .vec 127 t127 x5)]⟩ (aC g_0 (aC g_1 aN)) ?_
  refine qN [] 600 ⟨[(1, .d t83 x1), (5, .vec 205 t127), (6, .d t2 x4), (7, .d t127 (List.getD x2 (toN x4) (0 : Int))), (8, .d t12 (0 : Int)), (18, .d t83 x2), (19, .d t2 x3), (20, .d t2 x4)], [(205, .vec 127 t127 x5)]⟩ aN ?_
  refine Run.sq ?_
  refine qN [] 700 ⟨[(1, .d t83 x1), (5, .vec 205 t127), (6, .d t2 x4), (7, .d t127 (List.getD x2 (toN x4) (0 : Int))), (8, .d t12 (0 : Int)), (18, .d t83 x2), (19, .d t2 x3), (20, .d t2 x4), (25, .d t83 x1), (26, .d t2 (ofN (List.length x1))), (27, .d t2 (0 : Int))], [(205, .vec 127 t127 x5)]⟩ aN ?_
  refine Run.bl 2 ?_
  obtain ⟨o25, h_o25, h⟩ := bnd_elim h
  refine Run.mono (f95_l1_ok x1 x4 (List.getD x2 (toN x4) (0 : Int)) x2 x3 (ofN (List.length x1)) _ (0 : Int) (0 : Int) x5 h_o25) ?_
  rintro _ _ ⟨rfl, rfl⟩
  show Run Pg 68 _ _ _
  obtain ⟨g_0, h⟩ := gd_elim h
  obtain ⟨g_1, h⟩ := gd_elim h
  obtain ⟨g_2, h⟩ := gd_elim h
  refine qE [] 1300 ⟨[(1, .d t83 x1), (5, .vec 205 t127), (18, .d t83 x2), (19, .d t2 x3), (20, .d t2 x4)], [(205, .vec 127 t127 (List.set o25.2 (toN (wrapI .i64 (x4 + (ofN (List.length x1))))) (wrapI .u32 o25.1)))]⟩ (aC g_0 (aC g_1 (aC g_2 aN))) ?_
  show Run Pg 68 _ _ _
  refine qE [] 1400 ⟨[(1, .d t83 x1), (5, .vec 205 t127), (18, .d t83 x2), (19, .d t2 x3), (20, .d t2 (wrapI .i64 (x4 + (1 : Int))))], [(205, .vec 127 t127 (List.set o25.2 (toN (wrapI .i64 (x4 + (ofN (List.length x1))))) (wrapI .u32 o25.1)))]⟩ aN ?_
  exact ⟨m, Nat.lt_succ_self m, _, _, rfl, h⟩
 ·replace h := bif_f h hb
  refine qK ⟨[(5, .vec 205 t127)], [(205, .vec 127 t127 x5)]⟩ ?_
  refine Run.ex 0 ?_
  obtain rfl := sI h
  exact ⟨rfl, by kernel_rfl⟩

def F95 (a0 : List Int) (a1 : List Int) : Option ((List Int)) :=
 gd (0 ≤ (wrapI .i64 ((ofN (List.length a0)) + (ofN (List.length a1))))) <|
 gd ((wrapI .i64 ((ofN (List.length a0)) + (ofN (List.length a1)))) ≤ (wrapI .i64 ((ofN (List.length a0)) + (ofN (List.length a1))))) <|
 gd ((wrapI .i64 ((ofN (List.length a0)) + (ofN (List.length a1)))) ≤ 1073741824) <|
 ((f95_l0 a1 a0 (ofN (List.length a0)) (2 + List.length a1 + List.length a0 + List.length (List.replicate (toN (wrapI .i64 ((ofN (List.length a0)) + (ofN (List.length a1))))) (0 : Int))) ((0 : Int), (List.replicate (toN (wrapI .i64 ((ofN (List.length a0)) + (ofN (List.length a1))))) (0 : Int)))).bind fun o26 =>
 some o26)

theorem c95 {a0 : List Int} {a1 : List Int} {r : (List Int)} (h : F95 a0 a1 = some r) : CallPure Pg 95 [(.d t83 a0), (.d t83 a1)] (.d t83 r) := by
 refine qC c_95 68 [.tmp 4] [83] Go.Proofs.Tryz.func95 ?_
 show Run Pg 68 c_95 ⟨[(0, .d t83 a0), (1, .d t83 a1)], []⟩ (fin95 r)
 unfold F95 at h
 refine qN [] 100 ⟨[(0, .d t83 a0), (1, .d t83 a1)], []⟩ aN ?_
 obtain ⟨g_0, h⟩ := gd_elim h
 obtain ⟨g_1, h⟩ := gd_elim h
 obtain ⟨g_2, h⟩ := gd_elim h
 refine qN [] 200 ⟨[(0, .d t83 a0), (1, .d t83 a1), (5, .vec 205 t127)], [(205, .vec 127 t127 (List.replicate (toN (wrapI .i64 ((ofN (List.length a0)) + (ofN (List.length a1))))) (0 : Int)))]⟩ (aC g_0 (aC g_1 (aC g_2 aN))) ?_
 refine Run.sq ?_
 refine qN [] 300 ⟨[(1, .d t83 a1), (5, .vec 205 t127), (18, .d t83 a0), (19, .d t2 (ofN (List.length a0))), (20, .d t2 (0 : Int))], [(205, .vec 127 t127 (List.replicate (toN (wrapI .i64 ((ofN (List.length a0)) + (ofN (List.length a1))))) (0 : Int)))]⟩ aN ?_
 refine Run.bl 0 ?_
 obtain ⟨o26, h_o26, h⟩ := bnd_elim h
 refine Run.mono (f95_l0_ok a1 a0 (ofN (List.length a0)) _ (0 : Int) (List.replicate (toN (wrapI .i64 ((ofN (List.length a0)) + (ofN (List.length a1))))) (0 : Int)) h_o26) ?_
 rintro _ _ ⟨rfl, rfl⟩
 show Run Pg 68 _ _ _
 refine qN [] 1500 ⟨[(4, .vec 205 t127)], [(205, .vec 127 t127 o26)]⟩ aN ?_
 refine Run.freeze (s' := ⟨[(4, .d t83 o26)], []⟩) 205 (by kernel_rfl) ?_
 refine Run.rt ?_
 obtain rfl := sI h
 exact qR [(.d t83 o26)]

/-! ## f75 -/

noncomputable def c_75 : Code := body0 Go.Proofs.Tryz.f75

def fin75 (r : IntL) : Ex → St → Prop := endK X0 [.cell 4 85] [85] (.d t84 r)

def F75 (a0 : IntL) (a1 : IntL) : Option (IntL) :=
 (F95 a0.2 a1.2).bind fun y1 =>
 (F89 (!(a0.1 == a1.1)) y1).bind fun y2 =>
 some y2

theorem c75 {a0 : IntL} {a1 : IntL} {r : IntL} (h : F75 a0 a1 = some r) : CallPure Pg 75 [(.d t84 a0), (.d t84 a1)] (.d t84 r) := by
 refine qC c_75 16 [.cell 4 85] [85] Go.Proofs.Tryz.func75 ?_
 show Run Pg 16 c_75 ⟨[(0, .d t84 a0), (1, .d t84 a1)], []⟩ (fin75 r)
 unfold F75 at h
 refine qN [] 100 ⟨[(2, .ptr 100 0), (3, .ptr 101 0), (4, .ptr 102 0)], [(100, bx t84 a0), (101, bx t84 a1), (102, bx t84 (false, ([] : List Int)))]⟩ aN ?_
 obtain ⟨y1, h_y1, h⟩ := bnd_elim h
 obtain ⟨y2, h_y2, h⟩ := bnd_elim h
 refine qN [(9, .call (.d t83 y1)), (10, .call (.d t84 y2))] 200 ⟨[(4, .ptr 102 0)], [(102, bx t84 y2)]⟩ (aC (c95 h_y1) (aC (c89 h_y2) aN)) ?_
 refine Run.rt ?_
 obtain rfl := sI h
 exact qR [(.d t84 y2)]

/-! ## f91 -/

noncomputable def c_91 : Code := body0 Go.Proofs.Tryz.f91

def fin91 (r : Int) : Ex → St → Prop := endK X0 [.tmp 2] [3] (.d t2 r)

def F91 (a0 : IntL) : Option (Int) :=
 (bif a0.1 then
 some (-1 : Int)
 else
 (bif (decide ((0 : Int) < (ofN (List.length a0.2)))) then
 some (1 : Int)
 else
 some (0 : Int)))

theorem c91 {a0 : IntL} {r : Int} (h : F91 a0 = some r) : CallPure Pg 91 [(.d t84 a0)] (.d t2 r) := by
 refine qC c_91 11 [.tmp 2] [3] Go.Proofs.Tryz.func91 ?_
 show Run Pg 11 c_91 ⟨[(0, .d t84 a0)], []⟩ (fin91 r)
 unfold F91 at h
 refine qN [] 100 ⟨[(1, .ptr 100 0)], [(100, bx t84 a0)]⟩ aN ?_
 refine Run.sq ?_
 refine Run.bl 0 ?_
 refine qN [] 200 ⟨[(1, .ptr 100 0), (3, .d t4 a0.1)], [(100, bx t84 a0)]⟩ aN ?_
 refine Run.cd a0.1 (fun hb => ?_) (fun hb => ?_)
 ·replace h := bif_t h hb
  refine qN [] 300 ⟨[(2, .d t2 (-1 : Int))], []⟩ aN ?_
  refine Run.rt ?_
  obtain rfl := sI h
  exact qR [(.d t2 (-1 : Int))]
 ·replace h := bif_f h hb
  refine qN [] 400 ⟨[(6, .d t4 (decide ((0 : Int) < (ofN (List.length a0.2)))))], []⟩ aN ?_
  refine Run.cd (decide ((0 : Int) < (ofN (List.length a0.2)))) (fun hb => ?_) (fun hb => ?_)
  ·replace h := bif_t h hb
   refine qN [] 500 ⟨[(2, .d t2 (1 : Int))], []⟩ aN ?_
   refine Run.rt ?_
   obtain rfl := sI h
   exact qR [(.d t2 (1 : Int))]
  ·replace h := bif_f h hb
   refine Run.sk ?_
   show Run Pg 11 _ _ _
   refine qN [] 600 ⟨[(2, .d t2 (0 : Int))], []⟩ aN ?_
   refine Run.rt ?_
   obtain rfl := sI h
   exact qR [(.d t2 (0 : Int))]

/-! ## f92 -/

noncomputable def c_92 : Code := body0 Go.Proofs.Tryz.f92

def fin92 (r : IntL) : Ex → St → Prop := endK X0 [.cell 2 85] [85] (.d t84 r)

def F92 (a0 : IntL) : Option (IntL) :=
 gd (List.length a0.2 ≤ 1073741824) <|
 (F89 (!a0.1) a0.2).bind fun y1 =>
 some y1

theorem c92 {a0 : IntL} {r : IntL} (h : F92 a0 = some r) : CallPure Pg 92 [(.d t84 a0)] (.d t84 r) := by
 refine qC c_92 10 [.cell 2 85] [85] Go.Proofs.Tryz.func92 ?_
 show Run Pg 10 c_92 ⟨[(0, .d t84 a0)], []⟩ (fin92 r)
 unfold F92 at h
 refine qN [] 100 ⟨[(1, .ptr 100 0), (2, .ptr 101 0)], [(100, bx t84 a0), (101, bx t84 (false, ([] : List Int)))]⟩ aN ?_
 obtain ⟨g_0, h⟩ := gd_elim h
 obtain ⟨y1, h_y1, h⟩ := bnd_elim h
 refine qN [(6, .call (.d t84 y1))] 200 ⟨[(2, .ptr 101 0)], [(101, bx t84 y1)]⟩ (aC g_0 (aC (c89 h_y1) aN)) ?_
 refine Run.rt ?_
 obtain rfl := sI h
 exact qR [(.d t84 y1)]

/-! ## f114 -/

noncomputable def c_114 : Code := body0 Go.Proofs.Tryz.f114

def fin114 (r : Int × Bool) : Ex → St → Prop := endK X0 [.tmp 2, .tmp 3] [121, 4] (.tup (.vcons (.d t12 r.1) (.vcons (.d t4 r.2) .vnil)))

def F114 (a0 : IntL) : Option (Int × Bool) :=
 (bif ((ofN (List.length a0.2)) == (0 : Int)) then
 some ((0 : Int), true)
 else
 (bif ((ofN (List.length a0.2)) == (1 : Int)) then
 gd ((0 : Int) < ((List.length a0.2 : Nat) : Int)) <|
 some ((wrapI .u64 (List.getD a0.2 (toN (0 : Int)) (0 : Int))), true)
 else
 (bif ((ofN (List.length a0.2)) == (2 : Int)) then
 gd ((1 : Int) < ((List.length a0.2 : Nat) : Int)) <|
 gd ((0 : Int) < ((List.length a0.2 : Nat) : Int)) <|
 some ((wrapI .u64 ((wrapI .u64 ((wrapI .u64 (List.getD a0.2 (toN (1 : Int)) (0 : Int))) * (1000000000 : Int))) + (wrapI .u64 (List.getD a0.2 (toN (0 : Int)) (0 : Int))))), true)
 else
 some ((0 : Int), false))))

theorem c114 {a0 : IntL} {r : Int × Bool} (h : F114 a0 = some r) : CallPure Pg 114 [(.d t84 a0)] (.tup (.vcons (.d t12 r.1) (.vcons (.d t4 r.2) .vnil))) := by
 refine qC c_114 30 [.tmp 2, .tmp 3] [121, 4] Go.Proofs.Tryz.func114 ?_
 show Run Pg 30 c_114 ⟨[(0, .d t84 a0)], []⟩ (fin114 r)
 unfold F114 at h
 refine qN [] 100 ⟨[(1, .ptr 100 0)], [(100, bx t84 a0)]⟩ aN ?_
 refine Run.sq ?_
 refine qN [] 200 ⟨[(1, .ptr 100 0), (6, .d t2 (ofN (List.length a0.2)))], [(100, bx t84 a0)]⟩ aN ?_
 refine Run.bl 0 ?_
 refine qN [] 300 ⟨[(1, .ptr 100 0), (6, .d t2 (ofN (List.length a0.2))), (7, .d t4 ((ofN (List.length a0.2)) == (0 : Int)))], [(100, bx t84 a0)]⟩ aN ?_
 refine Run.cd ((ofN (List.length a0.2)) == (0 : Int)) (fun hb => ?_) (fun hb => ?_)
 ·replace h := bif_t h hb
  refine qN [] 400 ⟨[(2, .d t12 (0 : Int)), (3, .d t4 true)], []⟩ aN ?_
  refine Run.rt ?_
  obtain rfl := sI h
  exact qR [(.d t12 (0 : Int)), (.d t4 true)]
 ·replace h := bif_f h hb
  refine qN [] 500 ⟨[(1, .ptr 100 0), (6, .d t2 (ofN (List.length a0.2))), (9, .d t4 ((ofN (List.length a0.2)) == (1 : Int)))], [(100, bx t84 a0)]⟩ aN ?_
  refine Run.cd ((ofN (List.length a0.2)) == (1 : Int)) (fun hb => ?_) (fun hb => ?_)
  ·replace h := bif_t h hb
   obtain ⟨g_1, h⟩ := gd_elim h
   refine qN [] 600 ⟨[(2, .d t12 (wrapI .u64 (List.getD a0.2 (toN (0 : Int)) (0 : Int)))), (3, .d t4 true)], []⟩ (aC (show (0 ≤ (0 : Int)) from (by decide)) (aC g_1 aN)) ?_
   refine Run.rt ?_
   obtain rfl := sI h
   exact qR [(.d t12 (wrapI .u64 (List.getD a0.2 (toN (0 : Int)) (0 : Int)))), (.d t4 true)]
  ·replace h := bif_f h hb
   refine qN [] 700 ⟨[(1, .ptr 100 0), (16, .d t4 ((ofN (List.length a0.2)) == (2 : Int)))], [(100, bx t84 a0)]⟩ aN ?_
   refine Run.cd ((ofN (List.length a0.2)) == (2 : Int)) (fun hb => ?_) (fun hb => ?_)
   ·replace h := bif_t h hb
    obtain ⟨g_1, h⟩ := gd_elim h
    obtain ⟨g_3, h⟩ := gd_elim h
    refine qN [] 800 ⟨[(2, .d t12 (wrapI .u64 ((wrapI .u64 ((wrapI .u64 (List.getD a0.2 (toN (1 : Int)) (0 : Int))) * (1000000000 : Int))) + (wrapI .u64 (List.getD a0.2 (toN (0 : Int)) (0 : Int)))))), (3, .d t4 true)], []⟩ (aC (show (0 ≤ (1 : Int)) from (by decide)) (aC g_1 (aC (show (0 ≤ (0 : Int)) from (by decide)) (aC g_3 aN)))) ?_
    refine Run.rt ?_
    obtain rfl := sI h
    exact qR [(.d t12 (wrapI .u64 ((wrapI .u64 ((wrapI .u64 (List.getD a0.2 (toN (1 : Int)) (0 : Int))) * (1000000000 : Int))) + (wrapI .u64 (List.getD a0.2 (toN (0 : Int)) (0 : Int)))))), (.d t4 true)]
   ·replace h := bif_f h hb
    refine Run.sk ?_
    show Run Pg 30 _ _ _
    refine qN [] 900 ⟨[(2, .d t12 (0 : Int)), (3, .d t4 false)], []⟩ aN ?_
    refine Run.rt ?_
    obtain rfl := sI h
    exact qR [(.d t12 (0 : Int)), (.d t4 false)]

/-! ## f117 -/

noncomputable def c_117 : Code := body0 Go.Proofs.Tryz.f117

def fin117 (r : (List Int)) : Ex → St → Prop := endK X0 [.tmp 2] [83] (.d t83 r)

def f117_l0_post  : ((List Int)) → Ex → St → Prop
 | o, x, s => x = .out 0 ∧ s = ⟨[(0, .d t83 o)], []⟩

def f117_l0_b  (again : (List Int) → Option ((List Int))) : (List Int) → Option ((List Int))
 | x1 =>
 (bif (decide ((0 : Int) < (ofN (List.length x1)))) then
 gd (0 ≤ (wrapI .i64 ((ofN (List.length x1)) - (1 : Int)))) <|
 gd ((wrapI .i64 ((ofN (List.length x1)) - (1 : Int))) < ((List.length x1 : Nat) : Int)) <|
 (bif ((List.getD x1 (toN (wrapI .i64 ((ofN (List.length x1)) - (1 : Int)))) (0 : Int)) == (0 : Int)) then
 gd (0 ≤ (wrapI .i64 ((ofN (List.length x1)) - (1 : Int)))) <|
 gd ((wrapI .i64 ((ofN (List.length x1)) - (1 : Int))) ≤ ((List.length x1 : Nat) : Int)) <|
 again (List.take (Int.toNat (wrapI .i64 ((ofN (List.length x1)) - (1 : Int)))) x1)
 else
 some x1)
 else
 some x1)

def f117_l0  : Nat → (List Int) → Option ((List Int)) := loopF (f117_l0_b )

theorem f117_l0_ok  (k : Nat) (x1 : List Int) {out : ((List Int))} (h : f117_l0  k x1 = some out) : Run Pg 21 (bk1 (sq1 (sq2 c_117))) ⟨[(0, .d t83 x1)], []⟩ (f117_l0_post  out) := by
 refine Run.loopN (by kernel_rfl) (fun m s => ∃ x1, s = ⟨[(0, .d t83 x1)], []⟩ ∧ f117_l0  m x1 = some out) ?_ k ⟨x1,  rfl, h⟩
 rintro m s ⟨x1,  rfl, h⟩
 cases m with
 | zero => cases h
 | succ m =>
 replace h : f117_l0_b  (f117_l0  m) x1 = some out := h
 unfold f117_l0_b at h
 refine Run.sq ?_
 rcases bif_elim h with ⟨hb0, h⟩ | ⟨hb0, h⟩
 ·obtain ⟨g_1, h⟩ := gd_elim h
  obtain ⟨g_2, h⟩ := gd_elim h
  refine qN [(3, .b true)] 200 ⟨[(0, .d t83 x1), (14, .d t4 ((List.getD x1 (toN (wrapI .i64 ((ofN (List.length x1)) - (1 : Int)))) (0 : Int)) == (0 : Int)))], []⟩ (aC hb0 (aC g_1 (aC g_2 aN))) ?_
  refine Run.cd ((List.getD x1 (toN (wrapI .i64 ((ofN (List.length x1)) - (1 : Int)))) (0 : Int)) == (0 : Int)) (fun hb => ?_) (fun hb => ?_)
  ·replace h := bif_t h hb
   refine Run.sk ?_
   show Run Pg 21 _ _ _
   refine Run.bl 1 ?_
   obtain ⟨g_0, h⟩ := gd_elim h
   obtain ⟨g_1, h⟩ := gd_elim h
   refine qE [] 300 ⟨[(0, .d t83 (List.take (Int.toNat (wrapI .i64 ((ofN (List.length x1)) - (1 : Int)))) x1))], []⟩ (aC g_0 (aC g_1 aN)) ?_
   exact ⟨m, Nat.lt_succ_self m, _, rfl, h⟩
  ·replace h := bif_f h hb
   refine qK ⟨[(0, .d t83 x1)], []⟩ ?_
   refine Run.ex 0 ?_
   obtain rfl := sI h
   exact ⟨rfl, by kernel_rfl⟩
 ·refine qN [(3, .b false)] 200 ⟨[(0, .d t83 x1), (14, .d t4 false)], []⟩ (aC hb0 aN) ?_
  refine Run.cd false (fun hb => (by cases hb)) (fun hb => ?_)
  refine qK ⟨[(0, .d t83 x1)], []⟩ ?_
  refine Run.ex 0 ?_
  obtain rfl := sI h
  exact ⟨rfl, by kernel_rfl⟩

def F117 (a0 : List Int) : Option ((List Int)) :=
 ((f117_l0  (2 + List.length a0) a0).bind fun o2 =>
 some o2)

theorem c117 {a0 : List Int} {r : (List Int)} (h : F117 a0 = some r) : CallPure Pg 117 [(.d t83 a0)] (.d t83 r) := by
 refine qC c_117 21 [.tmp 2] [83] Go.Proofs.Tryz.func117 ?_
 show Run Pg 21 c_117 ⟨[(0, .d t83 a0)], []⟩ (fin117 r)
 unfold F117 at h
 refine qN [] 100 ⟨[(0, .d t83 a0)], []⟩ aN ?_
 refine Run.sq ?_
 refine Run.bl 0 ?_
 obtain ⟨o2, h_o2, h⟩ := bnd_elim h
 refine Run.mono (f117_l0_ok  _ a0 h_o2) ?_
 rintro _ _ ⟨rfl, rfl⟩
 show Run Pg 21 _ _ _
 refine qN [] 400 ⟨[(2, .d t83 o2)], []⟩ aN ?_
 refine Run.rt ?_
 obtain rfl := sI h
 exact qR [(.d t83 o2)]

/-! ## f128 -/

noncomputable def c_128 : Code := body0 Go.Proofs.Tryz.f128

def fin128 (r : (List Int) × (List Int)) : Ex → St → Prop := endK X0 [.tmp 4, .tmp 5] [83, 83] (.tup (.vcons (.d t83 r.1) (.vcons (.d t83 r.2) .vnil)))

def f128_l0_post (x1 : List Int) (x2 : Int) : (Int × (List Int)) → Ex → St → Prop
 | o, x, s => x = .out 0 ∧ s = ⟨[(6, .vec 202 t127), (7, .d t12 o.1)], [(202, .vec 127 t127 o.2)]⟩

def f128_l0_b (x1 : List Int) (x2 : Int) (again : Int × Int × (List Int) → Option (Int × (List Int))) : Int × Int × (List Int) → Option (Int × (List Int))
 | (x3, x4, x5) =>
 (bif (decide ((0 : Int) ≤ x4)) then
 gd (0 ≤ x4) <|
 gd (x4 < ((List.length x1 : Nat) : Int)) <|
 gd ((wrapI .u64 x2) ≠ 0) <|
 gd ((wrapI .u64 x2) ≠ 0) <|
 gd (0 ≤ x4) <|
 gd (x4 < ((List.length x5 : Nat) : Int)) <|
 gd ((toN x4) < List.length x5) <|
 again ((Int.tmod (wrapI .u64 ((wrapI .u64 (x3 * (1000000000 : Int))) + (wrapI .u64 (List.getD x1 (toN x4) (0 : Int))))) (wrapI .u64 x2)), (wrapI .i64 (x4 - (1 : Int))), (List.set x5 (toN x4) (wrapI .u32 (wrapI .u64 (Int.tdiv (wrapI .u64 ((wrapI .u64 (x3 * (1000000000 : Int))) + (wrapI .u64 (List.getD x1 (toN x4) (0 : Int))))) (wrapI .u64 x2))))))
 else
 some (x3, x5))

def f128_l0 (x1 : List Int) (x2 : Int) : Nat → Int × Int × (List Int) → Option (Int × (List Int)) := loopF (f128_l0_b x1 x2)

theorem f128_l0_ok (x1 : List Int) (x2 : Int) (k : Nat) (x3 : Int) (x4 : Int) (x5 : List Int) {out : (Int × (List Int))} (h : f128_l0 x1 x2 k (x3, x4, x5) = some out) : Run Pg 44 (bk1 (sq2 (sq1 (sq2 (sq2 (sq2 c_128)))))) ⟨[(0, .d t83 x1), (1, .d t127 x2), (6, .vec 202 t127), (7, .d t12 x3), (8, .d t2 x4)], [(202, .vec 127 t127 x5)]⟩ (f128_l0_post x1 x2 out) := by
 refine Run.loopN (by kernel_rfl) (fun m s => ∃ x3 x4 x5, s = ⟨[(0, .d t83 x1), (1, .d t127 x2), (6, .vec 202 t127), (7, .d t12 x3), (8, .d t2 x4)], [(202, .vec 127 t127 x5)]⟩ ∧ f128_l0 x1 x2 m (x3, x4, x5) = some out) ?_ k ⟨x3, x4, x5,  rfl, h⟩
 rintro m s ⟨x3, x4, x5,  rfl, h⟩
 cases m with
 | zero => cases h
 | succ m =>
 replace h : f128_l0_b x1 x2 (f128_l0 x1 x2 m) (x3, x4, x5) = some out := h
 unfold f128_l0_b at h
 refine Run.sq ?_
 refine qN [] 500 ⟨[(0, .d t83 x1), (1, .d t127 x2), (6, .vec 202 t127), (7, .d t12 x3), (8, .d t2 x4), (17, .d t4 (decide ((0 : Int) ≤ x4)))], [(202, .vec 127 t127 x5)]⟩ aN ?_
 refine Run.cd (decide ((0 : Int) ≤ x4)) (fun hb => ?_) (fun hb => ?_)
 ·replace h := bif_t h hb
  refine Run.sk ?_
  show Run Pg 44 _ _ _
  refine Run.sq ?_
  refine Run.bl 1 ?_
  obtain ⟨g_0, h⟩ := gd_elim h
  obtain ⟨g_1, h⟩ := gd_elim h
  refine qN [] 700 ⟨[(0, .d t83 x1), (1, .d t127 x2), (6, .vec 202 t127), (8, .d t2 x4), (9, .d t12 (wrapI .u64 ((wrapI .u64 (x3 * (1000000000 : Int))) + (wrapI .u64 (List.getD x1 (toN x4) (0 : Int))))))], [(202, .vec 127 t127 x5)]⟩ (aC g_0 (aC g_1 aN)) ?_
  obtain ⟨g_0, h⟩ := gd_elim h
  obtain ⟨g_1, h⟩ := gd_elim h
  obtain ⟨g_2, h⟩ := gd_elim h
  obtain ⟨g_3, h⟩ := gd_elim h
  obtain ⟨g_4, h⟩ := gd_elim h
  refine qE [] 800 ⟨[(0, .d t83 x1), (1, .d t127 x2), (6, .vec 202 t127), (7, .d t12 (Int.tmod (wrapI .u64 ((wrapI .u64 (x3 * (1000000000 : Int))) + (wrapI .u64 (List.getD x1 (toN x4) (0 : Int))))) (wrapI .u64 x2))), (8, .d t2 x4)], [(202, .vec 127 t127 (List.set x5 (toN x4) (wrapI .u32 (wrapI .u64 (Int.tdiv (wrapI .u64 ((wrapI .u64 (x3 * (1000000000 : Int))) + (wrapI .u64 (List.getD x1 (toN x4) (0 : Int))))) (wrapI .u64 x2))))))]⟩ (aC g_0 (aC g_1 (aC g_2 (aC g_3 (aC g_4 aN))))) ?_
  show Run Pg 44 _ _ _
  refine qE [] 600 ⟨[(0, .d t83 x1), (1, .d t127 x2), (6, .vec 202 t127), (7, .d t12 (Int.tmod (wrapI .u64 ((wrapI .u64 (x3 * (1000000000 : Int))) + (wrapI .u64 (List.getD x1 (toN x4) (0 : Int))))) (wrapI .u64 x2))), (8, .d t2 (wrapI .i64 (x4 - (1 : Int))))], [(202, .vec 127 t127 (List.set x5 (toN x4) (wrapI .u32 (wrapI .u64 (Int.tdiv (wrapI .u64 ((wrapI .u64 (x3 * (1000000000 : Int))) + (wrapI .u64 (List.getD x1 (toN x4) (0 : Int))))) (wrapI .u64 x2))))))]⟩ aN ?_
  exact ⟨m, Nat.lt_succ_self m, _, _, _, rfl, h⟩
 ·replace h := bif_f h hb
  refine qK ⟨[(6, .vec 202 t127), (7, .d t12 x3)], [(202, .vec 127 t127 x5)]⟩ ?_
  refine Run.ex 0 ?_
  obtain rfl := sI h
  exact ⟨rfl, by kernel_rfl⟩

def F128 (a0 : List Int) (a1 : Int) : Option ((List Int) × (List Int)) :=
 gd (0 ≤ (ofN (List.length a0))) <|
 gd ((ofN (List.length a0)) ≤ (ofN (List.length a0))) <|
 gd ((ofN (List.length a0)) ≤ 1073741824) <|
 ((f128_l0 a0 a1 (2 + List.length a0 + List.length (List.replicate (toN (ofN (List.length a0))) (0 : Int))) ((0 : Int), (wrapI .i64 ((ofN (List.length a0)) - (1 : Int))), (List.replicate (toN (ofN (List.length a0))) (0 : Int)))).bind fun o6 =>
 some (o6.2, ([(wrapI .u32 o6.1)] : List Int)))

theorem c128 {a0 : List Int} {a1 : Int} {r : (List Int) × (List Int)} (h : F128 a0 a1 = some r) : CallPure Pg 128 [(.d t83 a0), (.d t127 a1)] (.tup (.vcons (.d t83 r.1) (.vcons (.d t83 r.2) .vnil))) := by
 refine qC c_128 44 [.tmp 4, .tmp 5] [83, 83] Go.Proofs.Tryz.func128 ?_
 show Run Pg 44 c_128 ⟨[(0, .d t83 a0), (1, .d t127 a1)], []⟩ (fin128 r)
 unfold F128 at h
 refine qN [] 100 ⟨[(0, .d t83 a0), (1, .d t127 a1)], []⟩ aN ?_
 obtain ⟨g_0, h⟩ := gd_elim h
 obtain ⟨g_1, h⟩ := gd_elim h
 obtain ⟨g_2, h⟩ := gd_elim h
 refine qN [] 200 ⟨[(0, .d t83 a0), (1, .d t127 a1), (6, .vec 202 t127)], [(202, .vec 127 t127 (List.replicate (toN (ofN (List.length a0))) (0 : Int)))]⟩ (aC g_0 (aC g_1 (aC g_2 aN))) ?_
 refine qN [] 300 ⟨[(0, .d t83 a0), (1, .d t127 a1), (6, .vec 202 t127), (7, .d t12 (0 : Int))], [(202, .vec 127 t127 (List.replicate (toN (ofN (List.length a0))) (0 : Int)))]⟩ aN ?_
 refine Run.sq ?_
 refine qN [] 400 ⟨[(0, .d t83 a0), (1, .d t127 a1), (6, .vec 202 t127), (7, .d t12 (0 : Int)), (8, .d t2 (wrapI .i64 ((ofN (List.length a0)) - (1 : Int))))], [(202, .vec 127 t127 (List.replicate (toN (ofN (List.length a0))) (0 : Int)))]⟩ aN ?_
 refine Run.bl 0 ?_
 obtain ⟨o6, h_o6, h⟩ := bnd_elim h
 refine Run.mono (f128_l0_ok a0 a1 _ (0 : Int) (wrapI .i64 ((ofN (List.length a0)) - (1 : Int))) (List.replicate (toN (ofN (List.length a0))) (0 : Int)) h_o6) ?_
 rintro _ _ ⟨rfl, rfl⟩
 show Run Pg 44 _ _ _
 refine qN [] 900 ⟨[(4, .vec 202 t127), (5, .d t83 ([(wrapI .u32 o6.1)] : List Int))], [(202, .vec 127 t127 o6.2)]⟩ aN ?_
 refine Run.freeze (s' := ⟨[(4, .d t83 o6.2), (5, .d t83 ([(wrapI .u32 o6.1)] : List Int))], []⟩) 202 (by kernel_rfl) ?_
 refine Run.rt ?_
 obtain rfl := sI h
 exact qR [(.d t83 o6.2), (.d t83 ([(wrapI .u32 o6.1)] : List Int))]

/-! ## f97 -/

noncomputable def c_97 : Code := body0 Go.Proofs.Tryz.f97

def fin97 (r : Int) : Ex → St → Prop := endK X0 [.tmp 4] [3] (.d t2 r)

def f97_l0_post (x3 : List Int) (x4 : List Int) : ((Unit) ⊕ (Int)) → Ex → St → Prop
 | .inl o, x, s => x = .out 0 ∧ s = ⟨[], []⟩
 | .inr o, x, s => x = .ret ∧ fin97  o x s

def f97_l0_b (x3 : List Int) (x4 : List Int) (again : Int → Option ((Unit) ⊕ (Int))) : Int → Option ((Unit) ⊕ (Int))
 | x5 =>
 (bif (decide ((0 : Int) ≤ x5)) then
 gd (0 ≤ x5) <|
 gd (x5 < ((List.length x3 : Nat) : Int)) <|
 gd (0 ≤ x5) <|
 gd (x5 < ((List.length x4 : Nat) : Int)) <|
 (bif (decide ((List.getD x3 (toN x5) (0 : Int)) < (List.getD x4 (toN x5) (0 : Int)))) then
 some (.inr (-1 : Int))
 else
 gd (0 ≤ x5) <|
 gd (x5 < ((List.length x3 : Nat) : Int)) <|
 gd (0 ≤ x5) <|
 gd (x5 < ((List.length x4 : Nat) : Int)) <|
 (bif (decide ((List.getD x4 (toN x5) (0 : Int)) < (List.getD x3 (toN x5) (0 : Int)))) then
 some (.inr (1 : Int))
 else
 again (wrapI .i64 (x5 - (1 : Int)))))
 else
 some (.inl ()))

def f97_l0 (x3 : List Int) (x4 : List Int) : Nat → Int → Option ((Unit) ⊕ (Int)) := loopF (f97_l0_b x3 x4)

theorem f97_l0_ok (x3 : List Int) (x4 : List Int) (k : Nat) (x5 : Int) {out : ((Unit) ⊕ (Int))} (h : f97_l0 x3 x4 k x5 = some out) : Run Pg 45 (bk1 (sq2 (sq1 (sq2 (sq2 (sq2 c_97)))))) ⟨[(0, .d t83 x3), (1, .d t83 x4), (5, .d t2 x5)], []⟩ (f97_l0_post x3 x4 out) := by
 refine Run.loopN (by kernel_rfl) (fun m s => ∃ x5, s = ⟨[(0, .d t83 x3), (1, .d t83 x4), (5, .d t2 x5)], []⟩ ∧ f97_l0 x3 x4 m x5 = some out) ?_ k ⟨x5,  rfl, h⟩
 rintro m s ⟨x5,  rfl, h⟩
 cases m with
 | zero => cases h
 | succ m =>
 replace h : f97_l0_b x3 x4 (f97_l0 x3 x4 m) x5 = some out := h
 unfold f97_l0_b at h
 refine Run.sq ?_
 refine qN [] 800 ⟨[(0, .d t83 x3), (1, .d t83 x4), (5, .d t2 x5), (24, .d t4 (decide ((0 : Int) ≤ x5)))], []⟩ aN ?_
 refine Run.cd (decide ((0 : Int) ≤ x5)) (fun hb => ?_) (fun hb => ?_)
 ·replace h := bif_t h hb
  refine Run.sk ?_
  show Run Pg 45 _ _ _
  refine Run.sq ?_
  refine Run.bl 1 ?_
  refine Run.sq ?_
  obtain ⟨g_0, h⟩ := gd_elim h
  obtain ⟨g_1, h⟩ := gd_elim h
  obtain ⟨g_2, h⟩ := gd_elim h
  obtain ⟨g_3, h⟩ := gd_elim h
  refine qN [] 1000 ⟨[(0, .d t83 x3), (1, .d t83 x4), (5, .d t2 x5), (35, .d t4 (decide ((List.getD x3 (toN x5) (0 : Int)) < (List.getD x4 (toN x5) (0 : Int)))))], []⟩ (aC g_0 (aC g_1 (aC g_2 (aC g_3 aN)))) ?_
  refine Run.cd (decide ((List.getD x3 (toN x5) (0 : Int)) < (List.getD x4 (toN x5) (0 : Int)))) (fun hb => ?_) (fun hb => ?_)
  ·replace h := bif_t h hb
   refine qN [] 1100 ⟨[(4, .d t2 (-1 : Int))], []⟩ aN ?_
   refine Run.rt ?_
   obtain rfl := sI h
   exact ⟨rfl, [(.d t2 (-1 : Int))], by kernel_rfl, by kernel_rfl⟩
  ·replace h := bif_f h hb
   refine Run.sk ?_
   show Run Pg 45 _ _ _
   obtain ⟨g_0, h⟩ := gd_elim h
   obtain ⟨g_1, h⟩ := gd_elim h
   obtain ⟨g_2, h⟩ := gd_elim h
   obtain ⟨g_3, h⟩ := gd_elim h
   refine qN [] 1200 ⟨[(0, .d t83 x3), (1, .d t83 x4), (5, .d t2 x5), (44, .d t4 (decide ((List.getD x4 (toN x5) (0 : Int)) < (List.getD x3 (toN x5) (0 : Int)))))], []⟩ (aC g_0 (aC g_1 (aC g_2 (aC g_3 aN)))) ?_
   refine Run.cd (decide ((List.getD x4 (toN x5) (0 : Int)) < (List.getD x3 (toN x5) (0 : Int)))) (fun hb => ?_) (fun hb => ?_)
   ·replace h := bif_t h hb
    refine qN [] 1300 ⟨[(4, .d t2 (1 : Int))], []⟩ aN ?_
    refine Run.rt ?_
    obtain rfl := sI h
    exact ⟨rfl, [(.d t2 (1 : Int))], by kernel_rfl, by kernel_rfl⟩
   ·replace h := bif_f h hb
    refine Run.sk ?_
    show Run Pg 45 _ _ _
    refine qE [] 900 ⟨[(0, .d t83 x3), (1, .d t83 x4), (5, .d t2 (wrapI .i64 (x5 - (1 : Int))))], []⟩ aN ?_
    exact ⟨m, Nat.lt_succ_self m, _, rfl, h⟩
 ·replace h := bif_f h hb
  refine qK ⟨[], []⟩ ?_
  refine Run.ex 0 ?_
  obtain rfl := sI h
  exact ⟨rfl, by kernel_rfl⟩

def F97 (a0 : List Int) (a1 : List Int) : Option (Int) :=
 (F117 a0).bind fun y1 =>
 (F117 a1).bind fun y2 =>
 (bif ((ofN (List.length y1)) != (ofN (List.length y2))) then
 (bif (decide ((ofN (List.length y1)) < (ofN (List.length y2)))) then
 some (-1 : Int)
 else
 some (1 : Int))
 else
 ((f97_l0 y1 y2 (2 + List.length y1 + List.length y2) (wrapI .i64 ((ofN (List.length y1)) - (1 : Int)))).bind fun o6 => match o6 with
 | .inl o7 =>
 some (0 : Int)
 | .inr o8 =>
 some o8))

theorem c97 {a0 : List Int} {a1 : List Int} {r : Int} (h : F97 a0 a1 = some r) : CallPure Pg 97 [(.d t83 a0), (.d t83 a1)] (.d t2 r) := by
 refine qC c_97 45 [.tmp 4] [3] Go.Proofs.Tryz.func97 ?_
 show Run Pg 45 c_97 ⟨[(0, .d t83 a0), (1, .d t83 a1)], []⟩ (fin97 r)
 unfold F97 at h
 refine qN [] 100 ⟨[(0, .d t83 a0), (1, .d t83 a1)], []⟩ aN ?_
 obtain ⟨y1, h_y1, h⟩ := bnd_elim h
 obtain ⟨y2, h_y2, h⟩ := bnd_elim h
 refine qN [(1, .call (.d t83 y1)), (3, .call (.d t83 y2))] 200 ⟨[(0, .d t83 y1), (1, .d t83 y2)], []⟩ (aC (c117 h_y1) (aC (c117 h_y2) aN)) ?_
 refine Run.sq ?_
 refine qN [] 300 ⟨[(0, .d t83 y1), (1, .d t83 y2), (14, .d t4 ((ofN (List.length y1)) != (ofN (List.length y2))))], []⟩ aN ?_
 refine Run.cd ((ofN (List.length y1)) != (ofN (List.length y2))) (fun hb => ?_) (fun hb => ?_)
 ·replace h := bif_t h hb
  refine Run.sq ?_
  refine qN [] 400 ⟨[(19, .d t4 (decide ((ofN (List.length y1)) < (ofN (List.length y2)))))], []⟩ aN ?_
  refine Run.cd (decide ((ofN (List.length y1)) < (ofN (List.length y2)))) (fun hb => ?_) (fun hb => ?_)
  ·replace h := bif_t h hb
   refine qN [] 500 ⟨[(4, .d t2 (-1 : Int))], []⟩ aN ?_
   refine Run.rt ?_
   obtain rfl := sI h
   exact qR [(.d t2 (-1 : Int))]
  ·replace h := bif_f h hb
   refine Run.sk ?_
   show Run Pg 45 _ _ _
   refine qN [] 600 ⟨[(4, .d t2 (1 : Int))], []⟩ aN ?_
   refine Run.rt ?_
   obtain rfl := sI h
   exact qR [(.d t2 (1 : Int))]
 ·replace h := bif_f h hb
  refine Run.sk ?_
  show Run Pg 45 _ _ _
  refine Run.sq ?_
  refine qN [] 700 ⟨[(0, .d t83 y1), (1, .d t83 y2), (5, .d t2 (wrapI .i64 ((ofN (List.length y1)) - (1 : Int))))], []⟩ aN ?_
  refine Run.bl 0 ?_
  obtain ⟨o6, h_o6, h⟩ := bnd_elim h
  refine Run.mono (f97_l0_ok y1 y2 _ (wrapI .i64 ((ofN (List.length y1)) - (1 : Int))) h_o6) ?_
  rcases o6 with o7 | o8
  ·rintro _ _ ⟨rfl, rfl⟩
   show Run Pg 45 _ _ _
   refine qN [] 1400 ⟨[(4, .d t2 (0 : Int))], []⟩ aN ?_
   refine Run.rt ?_
   obtain rfl := sI h
   exact qR [(.d t2 (0 : Int))]
  ·rintro _ s ⟨rfl, hr⟩
   obtain rfl := sI h
   exact hr

/-! ## f95 -/

def fin95o (r : (List Int)) : Ex → St → Prop := endO X0 [.tmp 4] 127 t127 r

def f95o_l1_post (x16 : List Int) (x17 : Int) (x18 : Int) (x20 : List Int) (x21 : Int) (x22 : Int) : (Int × (List Int)) → Ex → St → Prop
 | o, x, s => x = .out 2 ∧ s = ⟨[(1, .d t83 x16), (5, .vec 205 t127), (6, .d t2 x17), (8, .d t12 o.1), (18, .d t83 x20), (19, .d t2 x21), (20, .d t2 x17)], [(205, .vec 127 t127 o.2)]⟩

def f95o_l1_b (x16 : List Int) (x17 : Int) (x18 : Int) (x22 : Int) (again : Int × Int × (List Int) → Option (Int × (List Int))) : Int × Int × (List Int) → Option (Int × (List Int))
 | (x19, x23, x24) =>
 (bif (decide (x23 < x22)) then
 gd (0 ≤ x23) <|
 gd (x23 < ((List.length x16 : Nat) : Int)) <|
 gd (0 ≤ (wrapI .i64 (x17 + x23))) <|
 gd ((wrapI .i64 (x17 + x23)) < ((List.length x24 : Nat) : Int)) <|
 gd ((toN (wrapI .i64 (x17 + x23))) < List.length x24) <|
 gd (0 ≤ (wrapI .i64 (x17 + x23))) <|
 gd ((wrapI .i64 (x17 + x23)) < ((List.length x24 : Nat) : Int)) <|
 gd ((toN (wrapI .i64 (x17 + x23))) < List.length x24) <|
 again ((wrapI .u64 (Int.tdiv (wrapI .u64 ((wrapI .u64 ((wrapI .u64 (List.getD x24 (toN (wrapI .i64 (x17 + x23))) (0 : Int))) + (wrapI .u64 ((wrapI .u64 x18) * (wrapI .u64 (List.getD x16 (toN x23) (0 : Int))))))) + x19)) (1000000000 : Int))), (wrapI .i64 (x23 + (1 : Int))), (List.set x24 (toN (wrapI .i64 (x17 + x23))) (wrapI .u32 (Int.tmod (wrapI .u64 ((wrapI .u64 ((wrapI .u64 (List.getD x24 (toN (wrapI .i64 (x17 + x23))) (0 : Int))) + (wrapI .u64 ((wrapI .u64 x18) * (wrapI .u64 (List.getD x16 (toN x23) (0 : Int))))))) + x19)) (1000000000 : Int)))))
 else
 some (x19, x24))

def f95o_l1 (x16 : List Int) (x17 : Int) (x18 : Int) (x22 : Int) : Nat → Int × Int × (List Int) → Option (Int × (List Int)) := loopF (f95o_l1_b x16 x17 x18 x22)

theorem f95o_l1_ok (x16 : List Int) (x17 : Int) (x18 : Int) (x20 : List Int) (x21 : Int) (x22 : Int) (k : Nat) (x19 : Int) (x23 : Int) (x24 : List Int) {out : (Int × (List Int))} (h : f95o_l1 x16 x17 x18 x22 k (x19, x23, x24) = some out) : Run Pg 68 (bk1 (sq2 (sq1 (sq2 (sq2 (bk1 (sq1 (sq2 (sq2 (lp1 (bk1 (sq2 (sq1 (sq2 (sq2 c_95))))))))))))))) ⟨[(1, .d t83 x16), (5, .vec 205 t127), (6, .d t2 x17), (7, .d t127 x18), (8, .d t12 x19), (18, .d t83 x20), (19, .d t2 x21), (20, .d t2 x17), (25, .d t83 x16), (26, .d t2 x22), (27, .d t2 x23)], [(205, .vec 127 t127 x24)]⟩ (f95o_l1_post x16 x17 x18 x20 x21 x22 out) := by
 refine Run.loopN (by kernel_rfl) (fun m s => ∃ x19 x23 x24, s = ⟨[(1, .d t83 x16), (5, .vec 205 t127), (6, .d t2 x17), (7, .d t127 x18), (8, .d t12 x19), (18, .d t83 x20), (19, .d t2 x21), (20, .d t2 x17), (25, .d t83 x16), (26, .d t2 x22), (27, .d t2 x23)], [(205, .vec 127 t127 x24)]⟩ ∧ f95o_l1 x16 x17 x18 x22 m (x19, x23, x24) = some out) ?_ k ⟨x19, x23, x24,  rfl, h⟩
 rintro m s ⟨x19, x23, x24,  rfl, h⟩
 cases m with
 | zero => cases h
 | succ m =>
 replace h : f95o_l1_b x16 x17 x18 x22 (f95o_l1 x16 x17 x18 x22 m) (x19, x23, x24) = some out := h
 unfold f95o_l1_b at h
 refine qN [] 800 ⟨[(1, .d t83 x16), (5, .vec 205 t127), (6, .d t2 x17), (7, .d t127 x18), (8, .d t12 x19), (18, .d t83 x20), (19, .d t2 x21), (20, .d t2 x17), (25, .d t83 x16), (26, .d t2 x22), (27, .d t2 x23), (28, .d t4 (decide (x23 < x22)))], [(205, .vec 127 t127 x24)]⟩ aN ?_
 refine Run.sq ?_
 refine Run.cd (decide (x23 < x22)) (fun hb => ?_) (fun hb => ?_)
 ·replace h := bif_t h hb
  refine Run.sk ?_
  show Run Pg 68 _ _ _
  refine Run.sq ?_
  refine Run.bl 3 ?_
  obtain ⟨g_0, h⟩ := gd_elim h
  obtain ⟨g_1, h⟩ := gd_elim h
  refine qN [] 900 ⟨[(1, .d t83 x16), (5, .vec 205 t127), (6, .d t2 x17), (7, .d t127 x18), (8, .d t12 x19), (9, .d t2 x23), (10, .d t127 (List.getD x16 (toN x23) (0 : Int))), (18, .d t83 x20), (19, .d t2 x21), (20, .d t2 x17), (25, .d t83 x16), (26, .d t2 x22), (27, .d t2 x23)], [(205, .vec 127 t127 x24)]⟩ (aC g_0 (aC g_1 aN)) ?_
  obtain ⟨g_0, h⟩ := gd_elim h
  obtain ⟨g_1, h⟩ := gd_elim h
  obtain ⟨g_2, h⟩ := gd_elim h
  refine qN [] 1000 ⟨[(1, .d t83 x16), (5, .vec 205 t127), (6, .d t2 x17), (7, .d t127 x18), (9, .d t2 x23), (11, .d t12 (wrapI .u64 ((wrapI .u64 ((wrapI .u64 (List.getD x24 (toN (wrapI .i64 (x17 + x23))) (0 : Int))) + (wrapI .u64 ((wrapI .u64 x18) * (wrapI .u64 (List.getD x16 (toN x23) (0 : Int))))))) + x19))), (18, .d t83 x20), (19, .d t2 x21), (20, .d t2 x17), (25, .d t83 x16), (26, .d t2 x22), (27, .d t2 x23)], [(205, .vec 127 t127 x24)]⟩ (aC g_0 (aC g_1 (aC g_2 aN))) ?_
  obtain ⟨g_2, h⟩ := gd_elim h
  obtain ⟨g_3, h⟩ := gd_elim h
  obtain ⟨g_4, h⟩ := gd_elim h
  refine qE [] 1100 ⟨[(1, .d t83 x16), (5, .vec 205 t127), (6, .d t2 x17), (7, .d t127 x18), (8, .d t12 (wrapI .u64 (Int.tdiv (wrapI .u64 ((wrapI .u64 ((wrapI .u64 (List.getD x24 (toN (wrapI .i64 (x17 + x23))) (0 : Int))) + (wrapI .u64 ((wrapI .u64 x18) * (wrapI .u64 (List.getD x16 (toN x23) (0 : Int))))))) + x19)) (1000000000 : Int)))), (18, .d t83 x20), (19, .d t2 x21), (20, .d t2 x17), (25, .d t83 x16), (26, .d t2 x22), (27, .d t2 x23)], [(205, .vec 127 t127 (List.set x24 (toN (wrapI .i64 (x17 + x23))) (wrapI .u32 (Int.tmod (wrapI .u64 ((wrapI .u64 ((wrapI .u64 (List.getD x24 (toN (wrapI .i64 (x17 + x23))) (0 : Int))) + (wrapI .u64 ((wrapI .u64 x18) * (wrapI .u64 (List.getD x16 (toN x23) (0 : Int))))))) + x19)) (1000000000 : Int)))))]⟩ (aC (show ((1000000000 : Int) ≠ 0) from (by decide)) (aC (show ((1000000000 : Int) ≠ 0) from (by decide)) (aC g_2 (aC g_3 (aC g_4 aN))))) ?_
  show Run Pg 68 _ _ _
  refine qE [] 1200 ⟨[(1, .d t83 x16), (5, .vec 205 t127), (6, .d t2 x17), (7, .d t127 x18), (8, .d t12 (wrapI .u64 (Int.tdiv (wrapI .u64 ((wrapI .u64 ((wrapI .u64 (List.getD x24 (toN (wrapI .i64 (x17 + x23))) (0 : Int))) + (wrapI .u64 ((wrapI .u64 x18) * (wrapI .u64 (List.getD x16 (toN x23) (0 : Int))))))) + x19)) (1000000000 : Int)))), (18, .d t83 x20), (19, .d t2 x21), (20, .d t2 x17), (25, .d t83 x16), (26, .d t2 x22), (27, .d t2 (wrapI .i64 (x23 + (1 : Int))))], [(205, .vec 127 t127 (List.set x24 (toN (wrapI .i64 (x17 + x23))) (wrapI .u32 (Int.tmod (wrapI .u64 ((wrapI .u64 ((wrapI .u64 (List.getD x24 (toN (wrapI .i64 (x17 + x23))) (0 : Int))) + (wrapI .u64 ((wrapI .u64 x18) * (wrapI .u64 (List.getD x16 (toN x23) (0 : Int))))))) + x19)) (1000000000 : Int)))))]⟩ aN ?_
  exact ⟨m, Nat.lt_succ_self m, _, _, _, rfl, h⟩
 ·replace h := bif_f h hb
  refine qK ⟨[(1, .d t83 x16), (5, .vec 205 t127), (6, .d t2 x17), (8, .d t12 x19), (18, .d t83 x20), (19, .d t2 x21), (20, .d t2 x17)], [(205, .vec 127 t127 x24)]⟩ ?_
  refine Run.ex 2 ?_
  obtain rfl := sI h
  exact ⟨rfl, by kernel_rfl⟩

def f95o_l0_post (x1 : List Int) (x2 : List Int) (x3 : Int) : ((List Int)) → Ex → St → Prop
 | o, x, s => x = .out 0 ∧ s = ⟨[(5, .vec 205 t127)], [(205, .vec 127 t127 o)]⟩

def f95o_l0_b (x1 : List Int) (x2 : List Int) (x3 : Int) (again : Int × (List Int) → Option ((List Int))) : Int × (List Int) → Option ((List Int))
 | (x4, x5) =>
 (bif (decide (x4 < x3)) then
 gd (0 ≤ x4) <|
 gd (x4 < ((List.length x2 : Nat) : Int)) <|
 ((f95o_l1 x1 x4 (List.getD x2 (toN x4) (0 : Int)) (ofN (List.length x1)) (2 + List.length x1 + List.length x2 + List.length x5) ((0 : Int), (0 : Int), x5)).bind fun o25 =>
 gd (0 ≤ (wrapI .i64 (x4 + (ofN (List.length x1))))) <|
 gd ((wrapI .i64 (x4 + (ofN (List.length x1)))) < ((List.length o25.2 : Nat) : Int)) <|
 gd ((toN (wrapI .i64 (x4 + (ofN (List.length x1))))) < List.length o25.2) <|
 again ((wrapI .i64 (x4 + (1 : Int))), (List.set o25.2 (toN (wrapI .i64 (x4 + (ofN (List.length x1))))) (wrapI .u32 o25.1))))
 else
 some x5)

def f95o_l0 (x1 : List Int) (x2 : List Int) (x3 : Int) : Nat → Int × (List Int) → Option ((List Int)) := loopF (f95o_l0_b x1 x2 x3)

theorem f95o_l0_ok (x1 : List Int) (x2 : List Int) (x3 : Int) (k : Nat) (x4 : Int) (x5 : List Int) {out : ((List Int))} (h : f95o_l0 x1 x2 x3 k (x4, x5) = some out) : Run Pg 68 (bk1 (sq2 (sq1 (sq2 (sq2 c_95))))) ⟨[(1, .d t83 x1), (5, .vec 205 t127), (18, .d t83 x2), (19, .d t2 x3), (20, .d t2 x4)], [(205, .vec 127 t127 x5)]⟩ (f95o_l0_post x1 x2 x3 out) := by
 refine Run.loopN (by kernel_rfl) (fun m s => ∃ x4 x5, s = ⟨[(1, .d t83 x1), (5, .vec 205 t127), (18, .d t83 x2), (19, .d t2 x3), (20, .d t2 x4)], [(205, .vec 127 t127 x5)]⟩ ∧ f95o_l0 x1 x2 x3 m (x4, x5) = some out) ?_ k ⟨x4, x5,  rfl, h⟩
 rintro m s ⟨x4, x5,  rfl, h⟩
 cases m with
 | zero => cases h
 | succ m =>
 replace h : f95o_l0_b x1 x2 x3 (f95o_l0 x1 x2 x3 m) (x4, x5) = some out := h
 unfold f95o_l0_b at h
 refine qN [] 400 ⟨[(1, .d t83 x1), (5, .vec 205 t127), (18, .d t83 x2), (19, .d t2 x3), (20, .d t2 x4), (21, .d t4 (decide (x4 < x3)))], [(205, .vec 127 t127 x5)]⟩ aN ?_
 refine Run.sq ?_
 refine Run.cd (decide (x4 < x3)) (fun hb => ?_) (fun hb => ?_)
 ·replace h := bif_t h hb
  refine Run.sk ?_
  show Run Pg 68 _ _ _
  refine Run.sq ?_
  refine Run.bl 1 ?_
  obtain ⟨g_0, h⟩ := gd_elim h
  obtain ⟨g_1, h⟩ := gd_elim h
  refine qN [] 500 ⟨[(1, .d t83 x1), (5, .vec 205 t127), (6, .d t2 x4), (7, .d t127 (List.getD x2 (toN x4) (0 : Int))), (18, .d t83 x2), (19, .d t2 x3), (20, .d t2 x4)], [(205, .vec 127 t127 x5)]⟩ (aC g_0 (aC g_1 aN)) ?_
  refine qN [] 600 ⟨[(1, .d t83 x1), (5, .vec 205 t127), (6, .d t2 x4), (7, .d t127 (List.getD x2 (toN x4) (0 : Int))), (8, .d t12 (0 : Int)), (18, .d t83 x2), (19, .d t2 x3), (20, .d t2 x4)], [(205, .vec 127 t127 x5)]⟩ aN ?_
  refine Run.sq ?_
  refine qN [] 700 ⟨[(1, .d t83 x1), (5, .vec 205 t127), (6, .d t2 x4), (7, .d t127 (List.getD x2 (toN x4) (0 : Int))), (8, .d t12 (0 : Int)), (18, .d t83 x2), (19, .d t2 x3), (20, .d t2 x4), (25, .d t83 x1), (26, .d t2 (ofN (List.length x1))), (27, .d t2 (0 : Int))], [(205, .vec 127 t127 x5)]⟩ aN ?_
  refine Run.bl 2 ?_
  obtain ⟨o25, h_o25, h⟩ := bnd_elim h
  refine Run.mono (f95o_l1_ok x1 x4 (List.getD x2 (toN x4) (0 : Int)) x2 x3 (ofN (List.length x1)) _ (0 : Int) (0 : Int) x5 h_o25) ?_
  rintro _ _ ⟨rfl, rfl⟩
  show Run Pg 68 _ _ _
  obtain ⟨g_0, h⟩ := gd_elim h
  obtain ⟨g_1, h⟩ := gd_elim h
  obtain ⟨g_2, h⟩ := gd_elim h
  refine qE [] 1300 ⟨[(1, .d t83 x1), (5, .vec 205 t127), (18, .d t83 x2), (19, .d t2 x3), (20, .d t2 x4)], [(205, .vec 127 t127 (List.set o25.2 (toN (wrapI .i64 (x4 + (ofN (List.length x1))))) (wrapI .u32 o25.1)))]⟩ (aC g_0 (aC g_1 (aC g_2 aN))) ?_
  show Run Pg 68 _ _ _
  refine qE [] 1400 ⟨[(1, .d t83 x1), (5, .vec 205 t127), (18, .d t83 x2), (19, .d t2 x3), (20, .d t2 (wrapI .i64 (x4 + (1 : Int))))], [(205, .vec 127 t127 (List.set o25.2 (toN (wrapI .i64 (x4 + (ofN (List.length x1))))) (wrapI .u32 o25.1)))]⟩ aN ?_
  exact ⟨m, Nat.lt_succ_self m, _, _, rfl, h⟩
 ·replace h := bif_f h hb
  refine qK ⟨[(5, .vec 205 t127)], [(205, .vec 127 t127 x5)]⟩ ?_
  refine Run.ex 0 ?_
  obtain rfl := sI h
  exact ⟨rfl, by kernel_rfl⟩

def F95o (a0 : List Int) (a1 : List Int) : Option ((List Int)) :=
 gd (0 ≤ (wrapI .i64 ((ofN (List.length a0)) + (ofN (List.length a1))))) <|
 gd ((wrapI .i64 ((ofN (List.length a0)) + (ofN (List.length a1)))) ≤ (wrapI .i64 ((ofN (List.length a0)) + (ofN (List.length a1))))) <|
 gd ((wrapI .i64 ((ofN (List.length a0)) + (ofN (List.length a1)))) ≤ 1073741824) <|
 ((f95o_l0 a1 a0 (ofN (List.length a0)) (2 + List.length a1 + List.length a0 + List.length (List.replicate (toN (wrapI .i64 ((ofN (List.length a0)) + (ofN (List.length a1))))) (0 : Int))) ((0 : Int), (List.replicate (toN (wrapI .i64 ((ofN (List.length a0)) + (ofN (List.length a1))))) (0 : Int)))).bind fun o26 =>
 some o26)

theorem c95o {a0 : List Int} {a1 : List Int} {r : (List Int)} (h : F95o a0 a1 = some r) : CallOwn Pg 95 [(.d t83 a0), (.d t83 a1)] 127 t127 r := by
 refine callOwnN hX c_95 68 [.tmp 4] Go.Proofs.Tryz.func95 (by kernel_rfl) (by kernel_rfl) (by kernel_rfl) (Nat.le_of_ble_eq_true rfl) ?_
 show Run Pg 68 c_95 ⟨[(0, .d t83 a0), (1, .d t83 a1)], []⟩ (fin95o r)
 unfold F95o at h
 refine qN [] 100 ⟨[(0, .d t83 a0), (1, .d t83 a1)], []⟩ aN ?_
 obtain ⟨g_0, h⟩ := gd_elim h
 obtain ⟨g_1, h⟩ := gd_elim h
 obtain ⟨g_2, h⟩ := gd_elim h
 refine qN [] 200 ⟨[(0, .d t83 a0), (1, .d t83 a1), (5, .vec 205 t127)], [(205, .vec 127 t127 (List.replicate (toN (wrapI .i64 ((ofN (List.length a0)) + (ofN (List.length a1))))) (0 : Int)))]⟩ (aC g_0 (aC g_1 (aC g_2 aN))) ?_
 refine Run.sq ?_
 refine qN [] 300 ⟨[(1, .d t83 a1), (5, .vec 205 t127), (18, .d t83 a0), (19, .d t2 (ofN (List.length a0))), (20, .d t2 (0 : Int))], [(205, .vec 127 t127 (List.replicate (toN (wrapI .i64 ((ofN (List.length a0)) + (ofN (List.length a1))))) (0 : Int)))]⟩ aN ?_
 refine Run.bl 0 ?_
 obtain ⟨o26, h_o26, h⟩ := bnd_elim h
 refine Run.mono (f95o_l0_ok a1 a0 (ofN (List.length a0)) _ (0 : Int) (List.replicate (toN (wrapI .i64 ((ofN (List.length a0)) + (ofN (List.length a1))))) (0 : Int)) h_o26) ?_
 rintro _ _ ⟨rfl, rfl⟩
 show Run Pg 68 _ _ _
 refine qN [] 1500 ⟨[(4, .vec 205 t127)], [(205, .vec 127 t127 o26)]⟩ aN ?_
 refine Run.rt ?_
 obtain rfl := sI h
 exact ⟨4, 205, rfl, by kernel_rfl⟩

/-! ## f129 -/

noncomputable def c_129 : Code := body0 Go.Proofs.Tryz.f129

def fin129s0 (a4 : List Int) (r : IntL) : Ex → St → Prop := endS X0 [.tmp 6] [4] (.d t4 r.1) [(1000000, .vec 127 t127 r.2)]

def f129s0_c1_post (x34 : Nat) (x35 : Nat) (x36 : List Int) (x37 : Int) (x38 : Int) (x39 : Int) (x40 : Int) (x41 : Int) (x42 : Bool) (x43 : List Int) : (Int) → Ex → St → Prop
 | o, x, s => x = .nrm ∧ s = ⟨[(0, .sub 1000000 t127 x34 x35), (1, .d t83 x36), (2, .d t12 x37), (8, .d t12 x38), (9, .d t2 x39), (10, .d t12 o), (14, .d t2 x41), (15, .d t2 x39)], [(1000000, .vec 127 t127 x43)]⟩

def f129s0_c1 (x36 : List Int) (x37 : Int) (x39 : Int) (x40 : Int) (x42 : Bool) : Option (Int) :=
 (bif x42 then
 gd (0 ≤ x39) <|
 gd (x39 < ((List.length x36 : Nat) : Int)) <|
 some (wrapI .u64 (x40 + (wrapI .u64 ((wrapI .u64 (List.getD x36 (toN x39) (0 : Int))) * x37))))
 else
 some x40)

theorem f129s0_c1_ok (x34 : Nat) (x35 : Nat) (x36 : List Int) (x37 : Int) (x38 : Int) (x39 : Int) (x40 : Int) (x41 : Int) (x42 : Bool) (x43 : List Int) {out : (Int)} (h : f129s0_c1 x36 x37 x39 x40 x42 = some out) : Run Pg 62 (sq2 (sq1 (sq2 (sq2 (bk1 (sq1 (sq2 (sq2 (lp1 (bk1 (sq2 (sq1 (sq2 (sq2 c_129)))))))))))))) ⟨[(0, .sub 1000000 t127 x34 x35), (1, .d t83 x36), (2, .d t12 x37), (8, .d t12 x38), (9, .d t2 x39), (10, .d t12 x40), (14, .d t2 x41), (15, .d t2 x39), (22, .d t4 x42)], [(1000000, .vec 127 t127 x43)]⟩ (f129s0_c1_post x34 x35 x36 x37 x38 x39 x40 x41 x42 x43 out) := by
 unfold f129s0_c1 at h
 refine Run.cd x42 (fun hb => ?_) (fun hb => ?_)
 ·replace h := bif_t h hb
  obtain ⟨g_0, h⟩ := gd_elim h
  obtain ⟨g_1, h⟩ := gd_elim h
  refine qE [] 800 ⟨[(0, .sub 1000000 t127 x34 x35), (1, .d t83 x36), (2, .d t12 x37), (8, .d t12 x38), (9, .d t2 x39), (10, .d t12 (wrapI .u64 (x40 + (wrapI .u64 ((wrapI .u64 (List.getD x36 (toN x39) (0 : Int))) * x37))))), (14, .d t2 x41), (15, .d t2 x39)], [(1000000, .vec 127 t127 x43)]⟩ (aC g_0 (aC g_1 aN)) ?_
  obtain rfl := sI h
  exact ⟨rfl, by kernel_rfl⟩
 ·replace h := bif_f h hb
  refine qK ⟨[(0, .sub 1000000 t127 x34 x35), (1, .d t83 x36), (2, .d t12 x37), (8, .d t12 x38), (9, .d t2 x39), (10, .d t12 x40), (14, .d t2 x41), (15, .d t2 x39)], [(1000000, .vec 127 t127 x43)]⟩ ?_
  refine Run.sk ?_
  obtain rfl := sI h
  exact ⟨rfl, by kernel_rfl⟩

def f129s0_c2_post (x45 : Nat) (x46 : Nat) (x47 : List Int) (x48 : Int) (x49 : Int) (x50 : Int) (x51 : Int) (x52 : Int) (x53 : Int) (x54 : Int) (x55 : Bool) (x56 : List Int) : (Int × Int) → Ex → St → Prop
 | o, x, s => x = .nrm ∧ s = ⟨[(0, .sub 1000000 t127 x45 x46), (1, .d t83 x47), (2, .d t12 x48), (7, .d t12 x49), (8, .d t12 o.1), (9, .d t2 x51), (11, .d t12 x52), (12, .d t12 o.2), (14, .d t2 x54), (15, .d t2 x51)], [(1000000, .vec 127 t127 x56)]⟩

def f129s0_c2 (x50 : Int) (x53 : Int) (x55 : Bool) : Option (Int × Int) :=
 (bif x55 then
 some ((1 : Int), (wrapI .u64 (x53 + (1000000000 : Int))))
 else
 some (x50, x53))

theorem f129s0_c2_ok (x45 : Nat) (x46 : Nat) (x47 : List Int) (x48 : Int) (x49 : Int) (x50 : Int) (x51 : Int) (x52 : Int) (x53 : Int) (x54 : Int) (x55 : Bool) (x56 : List Int) {out : (Int × Int)} (h : f129s0_c2 x50 x53 x55 = some out) : Run Pg 62 (sq2 (sq1 (sq2 (sq2 (sq2 (sq2 (sq2 (sq2 (sq2 (bk1 (sq1 (sq2 (sq2 (lp1 (bk1 (sq2 (sq1 (sq2 (sq2 c_129))))))))))))))))))) ⟨[(0, .sub 1000000 t127 x45 x46), (1, .d t83 x47), (2, .d t12 x48), (7, .d t12 x49), (8, .d t12 x50), (9, .d t2 x51), (11, .d t12 x52), (12, .d t12 x53), (14, .d t2 x54), (15, .d t2 x51), (45, .d t4 x55)], [(1000000, .vec 127 t127 x56)]⟩ (f129s0_c2_post x45 x46 x47 x48 x49 x50 x51 x52 x53 x54 x55 x56 out) := by
 unfold f129s0_c2 at h
 refine Run.cd x55 (fun hb => ?_) (fun hb => ?_)
 ·replace h := bif_t h hb
  refine qE [] 1400 ⟨[(0, .sub 1000000 t127 x45 x46), (1, .d t83 x47), (2, .d t12 x48), (7, .d t12 x49), (8, .d t12 (1 : Int)), (9, .d t2 x51), (11, .d t12 x52), (12, .d t12 (wrapI .u64 (x53 + (1000000000 : Int)))), (14, .d t2 x54), (15, .d t2 x51)], [(1000000, .vec 127 t127 x56)]⟩ aN ?_
  obtain rfl := sI h
  exact ⟨rfl, by kernel_rfl⟩
 ·replace h := bif_f h hb
  refine qK ⟨[(0, .sub 1000000 t127 x45 x46), (1, .d t83 x47), (2, .d t12 x48), (7, .d t12 x49), (8, .d t12 x50), (9, .d t2 x51), (11, .d t12 x52), (12, .d t12 x53), (14, .d t2 x54), (15, .d t2 x51)], [(1000000, .vec 127 t127 x56)]⟩ ?_
  refine Run.sk ?_
  obtain rfl := sI h
  exact ⟨rfl, by kernel_rfl⟩

def f129s0_l0_post (x1 : Nat) (x2 : Nat) (x3 : List Int) (x4 : Int) (x7 : Int) : (Int × Int × (List Int)) → Ex → St → Prop
 | o, x, s => x = .out 0 ∧ s = ⟨[(7, .d t12 o.1), (8, .d t12 o.2.1)], [(1000000, .vec 127 t127 o.2.2)]⟩

def f129s0_l0_b (x1 : Nat) (x2 : Nat) (x3 : List Int) (x4 : Int) (x7 : Int) (again : Int × Int × Int × (List Int) → Option (Int × Int × (List Int))) : Int × Int × Int × (List Int) → Option (Int × Int × (List Int))
 | (x5, x6, x8, x9) =>
 (bif (decide (x8 < x7)) then
 ((f129s0_c1 x3 x4 x8 x5 (decide (x8 < (ofN (List.length x3))))).bind fun o44 =>
 gd (0 ≤ x8) <|
 gd (x8 < ((x2 : Nat) : Int)) <|
 gd ((x1 + toN x8) < List.length x9) <|
 ((f129s0_c2 (0 : Int) (wrapI .u64 (List.getD x9 (x1 + toN x8) (0 : Int))) (decide ((wrapI .u64 (List.getD x9 (x1 + toN x8) (0 : Int))) < (wrapI .u64 ((Int.tmod o44 (1000000000 : Int)) + x6))))).bind fun o57 =>
 gd (0 ≤ x8) <|
 gd (x8 < ((x2 : Nat) : Int)) <|
 gd ((x1 + toN x8) < List.length x9) <|
 again ((wrapI .u64 (Int.tdiv o44 (1000000000 : Int))), o57.1, (wrapI .i64 (x8 + (1 : Int))), (List.set x9 (x1 + toN x8) (wrapI .u32 (wrapI .u64 (o57.2 - (wrapI .u64 ((Int.tmod o44 (1000000000 : Int)) + x6)))))))))
 else
 some (x5, x6, x9))

def f129s0_l0 (x1 : Nat) (x2 : Nat) (x3 : List Int) (x4 : Int) (x7 : Int) : Nat → Int × Int × Int × (List Int) → Option (Int × Int × (List Int)) := loopF (f129s0_l0_b x1 x2 x3 x4 x7)

theorem f129s0_l0_ok (x1 : Nat) (x2 : Nat) (x3 : List Int) (x4 : Int) (x7 : Int) (k : Nat) (x5 : Int) (x6 : Int) (x8 : Int) (x9 : List Int) {out : (Int × Int × (List Int))} (h : f129s0_l0 x1 x2 x3 x4 x7 k (x5, x6, x8, x9) = some out) : Run Pg 62 (bk1 (sq2 (sq1 (sq2 (sq2 c_129))))) ⟨[(0, .sub 1000000 t127 x1 x2), (1, .d t83 x3), (2, .d t12 x4), (7, .d t12 x5), (8, .d t12 x6), (14, .d t2 x7), (15, .d t2 x8)], [(1000000, .vec 127 t127 x9)]⟩ (f129s0_l0_post x1 x2 x3 x4 x7 out) := by
 refine Run.loopN (by kernel_rfl) (fun m s => ∃ x5 x6 x8 x9, s = ⟨[(0, .sub 1000000 t127 x1 x2), (1, .d t83 x3), (2, .d t12 x4), (7, .d t12 x5), (8, .d t12 x6), (14, .d t2 x7), (15, .d t2 x8)], [(1000000, .vec 127 t127 x9)]⟩ ∧ f129s0_l0 x1 x2 x3 x4 x7 m (x5, x6, x8, x9) = some out) ?_ k ⟨x5, x6, x8, x9,  rfl, h⟩
 rintro m s ⟨x5, x6, x8, x9,  rfl, h⟩
 cases m with
 | zero => cases h
 | succ m =>
 replace h : f129s0_l0_b x1 x2 x3 x4 x7 (f129s0_l0 x1 x2 x3 x4 x7 m) (x5, x6, x8, x9) = some out := h
 unfold f129s0_l0_b at h
 refine qN [] 400 ⟨[(0, .sub 1000000 t127 x1 x2), (1, .d t83 x3), (2, .d t12 x4), (7, .d t12 x5), (8, .d t12 x6), (14, .d t2 x7), (15, .d t2 x8), (16, .d t4 (decide (x8 < x7)))], [(1000000, .vec 127 t127 x9)]⟩ aN ?_
 refine Run.sq ?_
 refine Run.cd (decide (x8 < x7)) (fun hb => ?_) (fun hb => ?_)
 ·replace h := bif_t h hb
  refine Run.sk ?_
  show Run Pg 62 _ _ _
  refine Run.sq ?_
  refine Run.bl 1 ?_
  refine qN [] 500 ⟨[(0, .sub 1000000 t127 x1 x2), (1, .d t83 x3), (2, .d t12 x4), (7, .d t12 x5), (8, .d t12 x6), (9, .d t2 x8), (14, .d t2 x7), (15, .d t2 x8)], [(1000000, .vec 127 t127 x9)]⟩ aN ?_
  refine qN [] 600 ⟨[(0, .sub 1000000 t127 x1 x2), (1, .d t83 x3), (2, .d t12 x4), (8, .d t12 x6), (9, .d t2 x8), (10, .d t12 x5), (14, .d t2 x7), (15, .d t2 x8)], [(1000000, .vec 127 t127 x9)]⟩ aN ?_
  refine Run.sq ?_
  refine qN [] 700 ⟨[(0, .sub 1000000 t127 x1 x2), (1, .d t83 x3), (2, .d t12 x4), (8, .d t12 x6), (9, .d t2 x8), (10, .d t12 x5), (14, .d t2 x7), (15, .d t2 x8), (22, .d t4 (decide (x8 < (ofN (List.length x3)))))], [(1000000, .vec 127 t127 x9)]⟩ aN ?_
  obtain ⟨o44, h_o44, h⟩ := bnd_elim h
  refine Run.mono (f129s0_c1_ok x1 x2 x3 x4 x6 x8 x5 x7 (decide (x8 < (ofN (List.length x3)))) x9 h_o44) ?_
  rintro _ _ ⟨rfl, rfl⟩
  show Run Pg 62 _ _ _
  refine qN [] 900 ⟨[(0, .sub 1000000 t127 x1 x2), (1, .d t83 x3), (2, .d t12 x4), (7, .d t12 (wrapI .u64 (Int.tdiv o44 (1000000000 : Int)))), (8, .d t12 x6), (9, .d t2 x8), (10, .d t12 o44), (14, .d t2 x7), (15, .d t2 x8)], [(1000000, .vec 127 t127 x9)]⟩ (aC (show ((1000000000 : Int) ≠ 0) from (by decide)) aN) ?_
  refine qN [] 1000 ⟨[(0, .sub 1000000 t127 x1 x2), (1, .d t83 x3), (2, .d t12 x4), (7, .d t12 (wrapI .u64 (Int.tdiv o44 (1000000000 : Int)))), (9, .d t2 x8), (11, .d t12 (wrapI .u64 ((Int.tmod o44 (1000000000 : Int)) + x6))), (14, .d t2 x7), (15, .d t2 x8)], [(1000000, .vec 127 t127 x9)]⟩ (aC (show ((1000000000 : Int) ≠ 0) from (by decide)) aN) ?_
  refine qN [] 1100 ⟨[(0, .sub 1000000 t127 x1 x2), (1, .d t83 x3), (2, .d t12 x4), (7, .d t12 (wrapI .u64 (Int.tdiv o44 (1000000000 : Int)))), (8, .d t12 (0 : Int)), (9, .d t2 x8), (11, .d t12 (wrapI .u64 ((Int.tmod o44 (1000000000 : Int)) + x6))), (14, .d t2 x7), (15, .d t2 x8)], [(1000000, .vec 127 t127 x9)]⟩ aN ?_
  obtain ⟨g_0, h⟩ := gd_elim h
  obtain ⟨g_1, h⟩ := gd_elim h
  obtain ⟨g_2, h⟩ := gd_elim h
  refine qN [] 1200 ⟨[(0, .sub 1000000 t127 x1 x2), (1, .d t83 x3), (2, .d t12 x4), (7, .d t12 (wrapI .u64 (Int.tdiv o44 (1000000000 : Int)))), (8, .d t12 (0 : Int)), (9, .d t2 x8), (11, .d t12 (wrapI .u64 ((Int.tmod o44 (1000000000 : Int)) + x6))), (12, .d t12 (wrapI .u64 (List.getD x9 (x1 + toN x8) (0 : Int)))), (14, .d t2 x7), (15, .d t2 x8)], [(1000000, .vec 127 t127 x9)]⟩ (aC g_0 (aC g_1 (aC g_2 aN))) ?_
  refine Run.sq ?_
  refine qN [] 1300 ⟨[(0, .sub 1000000 t127 x1 x2), (1, .d t83 x3), (2, .d t12 x4), (7, .d t12 (wrapI .u64 (Int.tdiv o44 (1000000000 : Int)))), (8, .d t12 (0 : Int)), (9, .d t2 x8), (11, .d t12 (wrapI .u64 ((Int.tmod o44 (1000000000 : Int)) + x6))), (12, .d t12 (wrapI .u64 (List.getD x9 (x1 + toN x8) (0 : Int)))), (14, .d t2 x7), (15, .d t2 x8), (45, .d t4 (decide ((wrapI .u64 (List.getD x9 (x1 + toN x8) (0 : Int))) < (wrapI .u64 ((Int.tmod o44 (1000000000 : Int)) + x6)))))], [(1000000, .vec 127 t127 x9)]⟩ aN ?_
  obtain ⟨o57, h_o57, h⟩ := bnd_elim h
  refine Run.mono (f129s0_c2_ok x1 x2 x3 x4 (wrapI .u64 (Int.tdiv o44 (1000000000 : Int))) (0 : Int) x8 (wrapI .u64 ((Int.tmod o44 (1000000000 : Int)) + x6)) (wrapI .u64 (List.getD x9 (x1 + toN x8) (0 : Int))) x7 (decide ((wrapI .u64 (List.getD x9 (x1 + toN x8) (0 : Int))) < (wrapI .u64 ((Int.tmod o44 (1000000000 : Int)) + x6)))) x9 h_o57) ?_
  rintro _ _ ⟨rfl, rfl⟩
  show Run Pg 62 _ _ _
  obtain ⟨g_0, h⟩ := gd_elim h
  obtain ⟨g_1, h⟩ := gd_elim h
  obtain ⟨g_2, h⟩ := gd_elim h
  refine qE [] 1500 ⟨[(0, .sub 1000000 t127 x1 x2), (1, .d t83 x3), (2, .d t12 x4), (7, .d t12 (wrapI .u64 (Int.tdiv o44 (1000000000 : Int)))), (8, .d t12 o57.1), (14, .d t2 x7), (15, .d t2 x8)], [(1000000, .vec 127 t127 (List.set x9 (x1 + toN x8) (wrapI .u32 (wrapI .u64 (o57.2 - (wrapI .u64 ((Int.tmod o44 (1000000000 : Int)) + x6)))))))]⟩ (aC g_0 (aC g_1 (aC g_2 aN))) ?_
  show Run Pg 62 _ _ _
  refine qE [] 1600 ⟨[(0, .sub 1000000 t127 x1 x2), (1, .d t83 x3), (2, .d t12 x4), (7, .d t12 (wrapI .u64 (Int.tdiv o44 (1000000000 : Int)))), (8, .d t12 o57.1), (14, .d t2 x7), (15, .d t2 (wrapI .i64 (x8 + (1 : Int))))], [(1000000, .vec 127 t127 (List.set x9 (x1 + toN x8) (wrapI .u32 (wrapI .u64 (o57.2 - (wrapI .u64 ((Int.tmod o44 (1000000000 : Int)) + x6)))))))]⟩ aN ?_
  exact ⟨m, Nat.lt_succ_self m, _, _, _, _, rfl, h⟩
 ·replace h := bif_f h hb
  refine qK ⟨[(7, .d t12 x5), (8, .d t12 x6)], [(1000000, .vec 127 t127 x9)]⟩ ?_
  refine Run.ex 0 ?_
  obtain rfl := sI h
  exact ⟨rfl, by kernel_rfl⟩

def F129s0 (a0 : Nat) (a1 : Nat) (a2 : List Int) (a3 : Int) (a4 : List Int) : Option IntL :=
 ((f129s0_l0 a0 a1 a2 a3 (ofN a1) (2 + List.length a2 + List.length a4) ((0 : Int), (0 : Int), (0 : Int), a4)).bind fun o58 =>
 (bif (decide ((0 : Int) < o58.2.1)) then
 some (true, o58.2.2)
 else
 some ((decide ((0 : Int) < o58.1)), o58.2.2)))

theorem c129s0 {a0 : Nat} {a1 : Nat} {a2 : List Int} {a3 : Int} {a4 : List Int} {r : IntL} (h : F129s0 a0 a1 a2 a3 a4 = some r) : CallSt Pg 129 [(.sub 1000000 t127 a0 a1), (.d t83 a2), (.d t12 a3)] [(1000000, .vec 127 t127 a4)] (.d t4 r.1) [(1000000, .vec 127 t127 r.2)] := by
 refine callStN hX c_129 62 [.tmp 6] [4] Go.Proofs.Tryz.func129 (by kernel_rfl) (by kernel_rfl) (by kernel_rfl) (Nat.le_of_ble_eq_true rfl) rfl ?_
 show Run Pg 62 c_129 ⟨[(0, .sub 1000000 t127 a0 a1), (1, .d t83 a2), (2, .d t12 a3)], [(1000000, .vec 127 t127 a4)]⟩ (fin129s0 a4 r)
 unfold F129s0 at h
 refine qN [] 100 ⟨[(0, .sub 1000000 t127 a0 a1), (1, .d t83 a2), (2, .d t12 a3)], [(1000000, .vec 127 t127 a4)]⟩ aN ?_
 refine qN [] 200 ⟨[(0, .sub 1000000 t127 a0 a1), (1, .d t83 a2), (2, .d t12 a3), (7, .d t12 (0 : Int)), (8, .d t12 (0 : Int))], [(1000000, .vec 127 t127 a4)]⟩ aN ?_
 refine Run.sq ?_
 refine qN [] 300 ⟨[(0, .sub 1000000 t127 a0 a1), (1, .d t83 a2), (2, .d t12 a3), (7, .d t12 (0 : Int)), (8, .d t12 (0 : Int)), (14, .d t2 (ofN a1)), (15, .d t2 (0 : Int))], [(1000000, .vec 127 t127 a4)]⟩ aN ?_
 refine Run.bl 0 ?_
 obtain ⟨o58, h_o58, h⟩ := bnd_elim h
 refine Run.mono (f129s0_l0_ok a0 a1 a2 a3 (ofN a1) _ (0 : Int) (0 : Int) (0 : Int) a4 h_o58) ?_
 rintro _ _ ⟨rfl, rfl⟩
 show Run Pg 62 _ _ _
 rcases bif_elim h with ⟨hb0, h⟩ | ⟨hb0, h⟩
 ·refine qN [(2, .b true)] 1700 ⟨[(6, .d t4 true)], [(1000000, .vec 127 t127 o58.2.2)]⟩ (aC hb0 aN) ?_
  refine Run.rt ?_
  obtain rfl := sI h
  exact ⟨[(.d t4 true)], ⟨[], [(1000000, .vec 127 t127 o58.2.2)]⟩, by kernel_rfl, by kernel_rfl, by kernel_rfl, by kernel_rfl⟩
 ·refine qN [(2, .b false)] 1700 ⟨[(6, .d t4 (decide ((0 : Int) < o58.1)))], [(1000000, .vec 127 t127 o58.2.2)]⟩ (aC hb0 aN) ?_
  refine Run.rt ?_
  obtain rfl := sI h
  exact ⟨[(.d t4 (decide ((0 : Int) < o58.1)))], ⟨[], [(1000000, .vec 127 t127 o58.2.2)]⟩, by kernel_rfl, by kernel_rfl, by kernel_rfl, by kernel_rfl⟩

/-! ## f130 -/

noncomputable def c_130 : Code := body0 Go.Proofs.Tryz.f130

def fin130s0 (a3 : List Int) (r : (List Int)) : Ex → St → Prop := endS X0 [] [] (.tup .vnil) [(1000000, .vec 127 t127 r)]

def f130s0_c1_post (x27 : Nat) (x28 : Nat) (x29 : List Int) (x30 : Int) (x31 : Int) (x32 : Int) (x33 : Bool) (x34 : List Int) : (Int) → Ex → St → Prop
 | o, x, s => x = .nrm ∧ s = ⟨[(0, .sub 1000000 t127 x27 x28), (1, .d t83 x29), (5, .d t2 x30), (6, .d t127 o), (8, .d t2 x32), (9, .d t2 x30)], [(1000000, .vec 127 t127 x34)]⟩

def f130s0_c1 (x29 : List Int) (x30 : Int) (x31 : Int) (x33 : Bool) : Option (Int) :=
 (bif x33 then
 gd (0 ≤ x30) <|
 gd (x30 < ((List.length x29 : Nat) : Int)) <|
 some (wrapI .u32 (x31 + (List.getD x29 (toN x30) (0 : Int))))
 else
 some x31)

theorem f130s0_c1_ok (x27 : Nat) (x28 : Nat) (x29 : List Int) (x30 : Int) (x31 : Int) (x32 : Int) (x33 : Bool) (x34 : List Int) {out : (Int)} (h : f130s0_c1 x29 x30 x31 x33 = some out) : Run Pg 37 (sq2 (sq1 (sq2 (sq2 (bk1 (sq1 (sq2 (sq2 (lp1 (bk1 (sq2 (sq2 c_130)))))))))))) ⟨[(0, .sub 1000000 t127 x27 x28), (1, .d t83 x29), (5, .d t2 x30), (6, .d t127 x31), (8, .d t2 x32), (9, .d t2 x30), (21, .d t4 x33)], [(1000000, .vec 127 t127 x34)]⟩ (f130s0_c1_post x27 x28 x29 x30 x31 x32 x33 x34 out) := by
 unfold f130s0_c1 at h
 refine Run.cd x33 (fun hb => ?_) (fun hb => ?_)
 ·replace h := bif_t h hb
  obtain ⟨g_0, h⟩ := gd_elim h
  obtain ⟨g_1, h⟩ := gd_elim h
  refine qE [] 700 ⟨[(0, .sub 1000000 t127 x27 x28), (1, .d t83 x29), (5, .d t2 x30), (6, .d t127 (wrapI .u32 (x31 + (List.getD x29 (toN x30) (0 : Int))))), (8, .d t2 x32), (9, .d t2 x30)], [(1000000, .vec 127 t127 x34)]⟩ (aC g_0 (aC g_1 aN)) ?_
  obtain rfl := sI h
  exact ⟨rfl, by kernel_rfl⟩
 ·replace h := bif_f h hb
  refine qK ⟨[(0, .sub 1000000 t127 x27 x28), (1, .d t83 x29), (5, .d t2 x30), (6, .d t127 x31), (8, .d t2 x32), (9, .d t2 x30)], [(1000000, .vec 127 t127 x34)]⟩ ?_
  refine Run.sk ?_
  obtain rfl := sI h
  exact ⟨rfl, by kernel_rfl⟩

def f130s0_c2_post (x36 : Nat) (x37 : Nat) (x38 : List Int) (x39 : Int) (x40 : Int) (x41 : Int) (x42 : Int) (x43 : Bool) (x44 : List Int) : (Int × Int) → Ex → St → Prop
 | o, x, s => x = .nrm ∧ s = ⟨[(0, .sub 1000000 t127 x36 x37), (1, .d t83 x38), (4, .d t127 o.1), (5, .d t2 x40), (6, .d t127 o.2), (8, .d t2 x42), (9, .d t2 x40)], [(1000000, .vec 127 t127 x44)]⟩

def f130s0_c2 (x39 : Int) (x41 : Int) (x43 : Bool) : Option (Int × Int) :=
 (bif x43 then
 some ((1 : Int), (wrapI .u32 (x41 - (1000000000 : Int))))
 else
 some (x39, x41))

theorem f130s0_c2_ok (x36 : Nat) (x37 : Nat) (x38 : List Int) (x39 : Int) (x40 : Int) (x41 : Int) (x42 : Int) (x43 : Bool) (x44 : List Int) {out : (Int × Int)} (h : f130s0_c2 x39 x41 x43 = some out) : Run Pg 37 (sq2 (sq1 (sq2 (sq2 (sq2 (sq2 (bk1 (sq1 (sq2 (sq2 (lp1 (bk1 (sq2 (sq2 c_130)))))))))))))) ⟨[(0, .sub 1000000 t127 x36 x37), (1, .d t83 x38), (4, .d t127 x39), (5, .d t2 x40), (6, .d t127 x41), (8, .d t2 x42), (9, .d t2 x40), (29, .d t4 x43)], [(1000000, .vec 127 t127 x44)]⟩ (f130s0_c2_post x36 x37 x38 x39 x40 x41 x42 x43 x44 out) := by
 unfold f130s0_c2 at h
 refine Run.cd x43 (fun hb => ?_) (fun hb => ?_)
 ·replace h := bif_t h hb
  refine qE [] 1000 ⟨[(0, .sub 1000000 t127 x36 x37), (1, .d t83 x38), (4, .d t127 (1 : Int)), (5, .d t2 x40), (6, .d t127 (wrapI .u32 (x41 - (1000000000 : Int)))), (8, .d t2 x42), (9, .d t2 x40)], [(1000000, .vec 127 t127 x44)]⟩ aN ?_
  obtain rfl := sI h
  exact ⟨rfl, by kernel_rfl⟩
 ·replace h := bif_f h hb
  refine qK ⟨[(0, .sub 1000000 t127 x36 x37), (1, .d t83 x38), (4, .d t127 x39), (5, .d t2 x40), (6, .d t127 x41), (8, .d t2 x42), (9, .d t2 x40)], [(1000000, .vec 127 t127 x44)]⟩ ?_
  refine Run.sk ?_
  obtain rfl := sI h
  exact ⟨rfl, by kernel_rfl⟩

def f130s0_l0_post (x1 : Nat) (x2 : Nat) (x3 : List Int) (x5 : Int) : ((List Int)) → Ex → St → Prop
 | o, x, s => x = .out 0 ∧ s = ⟨[], [(1000000, .vec 127 t127 o)]⟩

def f130s0_l0_b (x1 : Nat) (x2 : Nat) (x3 : List Int) (x5 : Int) (again : Int × Int × (List Int) → Option ((List Int))) : Int × Int × (List Int) → Option ((List Int))
 | (x4, x6, x7) =>
 (bif (decide (x6 < x5)) then
 gd (0 ≤ x6) <|
 gd (x6 < ((x2 : Nat) : Int)) <|
 gd ((x1 + toN x6) < List.length x7) <|
 ((f130s0_c1 x3 x6 (wrapI .u32 ((List.getD x7 (x1 + toN x6) (0 : Int)) + x4)) (decide (x6 < (ofN (List.length x3))))).bind fun o35 =>
 ((f130s0_c2 (0 : Int) o35 (decide ((1000000000 : Int) ≤ o35))).bind fun o45 =>
 gd (0 ≤ x6) <|
 gd (x6 < ((x2 : Nat) : Int)) <|
 gd ((x1 + toN x6) < List.length x7) <|
 again (o45.1, (wrapI .i64 (x6 + (1 : Int))), (List.set x7 (x1 + toN x6) o45.2))))
 else
 some x7)

def f130s0_l0 (x1 : Nat) (x2 : Nat) (x3 : List Int) (x5 : Int) : Nat → Int × Int × (List Int) → Option ((List Int)) := loopF (f130s0_l0_b x1 x2 x3 x5)

theorem f130s0_l0_ok (x1 : Nat) (x2 : Nat) (x3 : List Int) (x5 : Int) (k : Nat) (x4 : Int) (x6 : Int) (x7 : List Int) {out : ((List Int))} (h : f130s0_l0 x1 x2 x3 x5 k (x4, x6, x7) = some out) : Run Pg 37 (bk1 (sq2 (sq2 c_130))) ⟨[(0, .sub 1000000 t127 x1 x2), (1, .d t83 x3), (4, .d t127 x4), (8, .d t2 x5), (9, .d t2 x6)], [(1000000, .vec 127 t127 x7)]⟩ (f130s0_l0_post x1 x2 x3 x5 out) := by
 refine Run.loopN (by kernel_rfl) (fun m s => ∃ x4 x6 x7, s = ⟨[(0, .sub 1000000 t127 x1 x2), (1, .d t83 x3), (4, .d t127 x4), (8, .d t2 x5), (9, .d t2 x6)], [(1000000, .vec 127 t127 x7)]⟩ ∧ f130s0_l0 x1 x2 x3 x5 m (x4, x6, x7) = some out) ?_ k ⟨x4, x6, x7,  rfl, h⟩
 rintro m s ⟨x4, x6, x7,  rfl, h⟩
 cases m with
 | zero => cases h
 | succ m =>
 replace h : f130s0_l0_b x1 x2 x3 x5 (f130s0_l0 x1 x2 x3 x5 m) (x4, x6, x7) = some out := h
 unfold f130s0_l0_b at h
 refine qN [] 300 ⟨[(0, .sub 1000000 t127 x1 x2), (1, .d t83 x3), (4, .d t127 x4), (8, .d t2 x5), (9, .d t2 x6), (10, .d t4 (decide (x6 < x5)))], [(1000000, .vec 127 t127 x7)]⟩ aN ?_
 refine Run.sq ?_
 refine Run.cd (decide (x6 < x5)) (fun hb => ?_) (fun hb => ?_)
 ·replace h := bif_t h hb
  refine Run.sk ?_
  show Run Pg 37 _ _ _
  refine Run.sq ?_
  refine Run.bl 1 ?_
  refine qN [] 400 ⟨[(0, .sub 1000000 t127 x1 x2), (1, .d t83 x3), (4, .d t127 x4), (5, .d t2 x6), (8, .d t2 x5), (9, .d t2 x6)], [(1000000, .vec 127 t127 x7)]⟩ aN ?_
  obtain ⟨g_0, h⟩ := gd_elim h
  obtain ⟨g_1, h⟩ := gd_elim h
  obtain ⟨g_2, h⟩ := gd_elim h
  refine qN [] 500 ⟨[(0, .sub 1000000 t127 x1 x2), (1, .d t83 x3), (5, .d t2 x6), (6, .d t127 (wrapI .u32 ((List.getD x7 (x1 + toN x6) (0 : Int)) + x4))), (8, .d t2 x5), (9, .d t2 x6)], [(1000000, .vec 127 t127 x7)]⟩ (aC g_0 (aC g_1 (aC g_2 aN))) ?_
  refine Run.sq ?_
  refine qN [] 600 ⟨[(0, .sub 1000000 t127 x1 x2), (1, .d t83 x3), (5, .d t2 x6), (6, .d t127 (wrapI .u32 ((List.getD x7 (x1 + toN x6) (0 : Int)) + x4))), (8, .d t2 x5), (9, .d t2 x6), (21, .d t4 (decide (x6 < (ofN (List.length x3)))))], [(1000000, .vec 127 t127 x7)]⟩ aN ?_
  obtain ⟨o35, h_o35, h⟩ := bnd_elim h
  refine Run.mono (f130s0_c1_ok x1 x2 x3 x6 (wrapI .u32 ((List.getD x7 (x1 + toN x6) (0 : Int)) + x4)) x5 (decide (x6 < (ofN (List.length x3)))) x7 h_o35) ?_
  rintro _ _ ⟨rfl, rfl⟩
  show Run Pg 37 _ _ _
  refine qN [] 800 ⟨[(0, .sub 1000000 t127 x1 x2), (1, .d t83 x3), (4, .d t127 (0 : Int)), (5, .d t2 x6), (6, .d t127 o35), (8, .d t2 x5), (9, .d t2 x6)], [(1000000, .vec 127 t127 x7)]⟩ aN ?_
  refine Run.sq ?_
  refine qN [] 900 ⟨[(0, .sub 1000000 t127 x1 x2), (1, .d t83 x3), (4, .d t127 (0 : Int)), (5, .d t2 x6), (6, .d t127 o35), (8, .d t2 x5), (9, .d t2 x6), (29, .d t4 (decide ((1000000000 : Int) ≤ o35)))], [(1000000, .vec 127 t127 x7)]⟩ aN ?_
  obtain ⟨o45, h_o45, h⟩ := bnd_elim h
  refine Run.mono (f130s0_c2_ok x1 x2 x3 (0 : Int) x6 o35 x5 (decide ((1000000000 : Int) ≤ o35)) x7 h_o45) ?_
  rintro _ _ ⟨rfl, rfl⟩
  show Run Pg 37 _ _ _
  obtain ⟨g_0, h⟩ := gd_elim h
  obtain ⟨g_1, h⟩ := gd_elim h
  obtain ⟨g_2, h⟩ := gd_elim h
  refine qE [] 1100 ⟨[(0, .sub 1000000 t127 x1 x2), (1, .d t83 x3), (4, .d t127 o45.1), (8, .d t2 x5), (9, .d t2 x6)], [(1000000, .vec 127 t127 (List.set x7 (x1 + toN x6) o45.2))]⟩ (aC g_0 (aC g_1 (aC g_2 aN))) ?_
  show Run Pg 37 _ _ _
  refine qE [] 1200 ⟨[(0, .sub 1000000 t127 x1 x2), (1, .d t83 x3), (4, .d t127 o45.1), (8, .d t2 x5), (9, .d t2 (wrapI .i64 (x6 + (1 : Int))))], [(1000000, .vec 127 t127 (List.set x7 (x1 + toN x6) o45.2))]⟩ aN ?_
  exact ⟨m, Nat.lt_succ_self m, _, _, _, rfl, h⟩
 ·replace h := bif_f h hb
  refine qK ⟨[], [(1000000, .vec 127 t127 x7)]⟩ ?_
  refine Run.ex 0 ?_
  obtain rfl := sI h
  exact ⟨rfl, by kernel_rfl⟩

def F130s0 (a0 : Nat) (a1 : Nat) (a2 : List Int) (a3 : List Int) : Option ((List Int)) :=
 ((f130s0_l0 a0 a1 a2 (ofN a1) (2 + List.length a2 + List.length a3) ((0 : Int), (0 : Int), a3)).bind fun o46 =>
 some o46)

theorem c130s0 {a0 : Nat} {a1 : Nat} {a2 : List Int} {a3 : List Int} {r : (List Int)} (h : F130s0 a0 a1 a2 a3 = some r) : CallSt Pg 130 [(.sub 1000000 t127 a0 a1), (.d t83 a2)] [(1000000, .vec 127 t127 a3)] (.tup .vnil) [(1000000, .vec 127 t127 r)] := by
 refine callStN hX c_130 37 [] [] Go.Proofs.Tryz.func130 (by kernel_rfl) (by kernel_rfl) (by kernel_rfl) (Nat.le_of_ble_eq_true rfl) rfl ?_
 show Run Pg 37 c_130 ⟨[(0, .sub 1000000 t127 a0 a1), (1, .d t83 a2)], [(1000000, .vec 127 t127 a3)]⟩ (fin130s0 a3 r)
 unfold F130s0 at h
 refine qN [] 100 ⟨[(0, .sub 1000000 t127 a0 a1), (1, .d t83 a2), (4, .d t127 (0 : Int))], [(1000000, .vec 127 t127 a3)]⟩ aN ?_
 refine qN [] 200 ⟨[(0, .sub 1000000 t127 a0 a1), (1, .d t83 a2), (4, .d t127 (0 : Int)), (8, .d t2 (ofN a1)), (9, .d t2 (0 : Int))], [(1000000, .vec 127 t127 a3)]⟩ aN ?_
 refine Run.bl 0 ?_
 obtain ⟨o46, h_o46, h⟩ := bnd_elim h
 refine Run.mono (f130s0_l0_ok a0 a1 a2 (ofN a1) _ (0 : Int) (0 : Int) a3 h_o46) ?_
 rintro _ _ ⟨rfl, rfl⟩
 obtain rfl := sI h
 exact ⟨[], ⟨[], [(1000000, .vec 127 t127 o46)]⟩, by kernel_rfl, by kernel_rfl, by kernel_rfl, by kernel_rfl⟩

/-! ## f115 -/

noncomputable def c_115 : Code := body0 Go.Proofs.Tryz.f115

def fin115 (r : (List Int) × (List Int)) : Ex → St → Prop := endK X0 [.tmp 4, .tmp 5] [83, 83] (.tup (.vcons (.d t83 r.1) (.vcons (.d t83 r.2) .vnil)))

def f115_l1_post (x35 : Int) (x36 : Int) (x37 : List Int) (x38 : Int) (x41 : List Int) (x42 : List Int) : (Int) → Ex → St → Prop
 | o, x, s => x = .out 2 ∧ s = ⟨[(6, .d t2 x35), (7, .d t127 x36), (8, .vec 903 t127), (9, .d t83 x37), (10, .vec 1104 t127), (11, .d t2 x38), (13, .d t12 o)], [(903, .vec 127 t127 x41), (1104, .vec 127 t127 x42)]⟩

def f115_l1_b (x35 : Int) (x37 : List Int) (x38 : Int) (x41 : List Int) (again : Int × Int → Option (Int)) : Int × Int → Option (Int)
 | (x39, x40) =>
 (bif (decide ((1000000000 : Int) ≤ x39)) then
 gd (0 ≤ (wrapI .i64 (x35 - (1 : Int)))) <|
 gd ((wrapI .i64 (x35 - (1 : Int))) < ((List.length x37 : Nat) : Int)) <|
 (bif (decide ((1000000000 : Int) ≤ (wrapI .u64 (x40 + (wrapI .u64 (List.getD x37 (toN (wrapI .i64 (x35 - (1 : Int)))) (0 : Int))))))) then
 some (wrapI .u64 (x39 - (1 : Int)))
 else
 again ((wrapI .u64 (x39 - (1 : Int))), (wrapI .u64 (x40 + (wrapI .u64 (List.getD x37 (toN (wrapI .i64 (x35 - (1 : Int)))) (0 : Int)))))))
 else
 gd (0 ≤ (wrapI .i64 (x35 - (2 : Int)))) <|
 gd ((wrapI .i64 (x35 - (2 : Int))) < ((List.length x37 : Nat) : Int)) <|
 gd (0 ≤ (wrapI .i64 ((wrapI .i64 (x38 + x35)) - (2 : Int)))) <|
 gd ((wrapI .i64 ((wrapI .i64 (x38 + x35)) - (2 : Int))) < ((List.length x41 : Nat) : Int)) <|
 gd ((toN (wrapI .i64 ((wrapI .i64 (x38 + x35)) - (2 : Int)))) < List.length x41) <|
 (bif (decide ((wrapI .u64 ((wrapI .u64 (x40 * (1000000000 : Int))) + (wrapI .u64 (List.getD x41 (toN (wrapI .i64 ((wrapI .i64 (x38 + x35)) - (2 : Int)))) (0 : Int))))) < (wrapI .u64 (x39 * (wrapI .u64 (List.getD x37 (toN (wrapI .i64 (x35 - (2 : Int)))) (0 : Int))))))) then
 gd (0 ≤ (wrapI .i64 (x35 - (1 : Int)))) <|
 gd ((wrapI .i64 (x35 - (1 : Int))) < ((List.length x37 : Nat) : Int)) <|
 (bif (decide ((1000000000 : Int) ≤ (wrapI .u64 (x40 + (wrapI .u64 (List.getD x37 (toN (wrapI .i64 (x35 - (1 : Int)))) (0 : Int))))))) then
 some (wrapI .u64 (x39 - (1 : Int)))
 else
 again ((wrapI .u64 (x39 - (1 : Int))), (wrapI .u64 (x40 + (wrapI .u64 (List.getD x37 (toN (wrapI .i64 (x35 - (1 : Int)))) (0 : Int)))))))
 else
 some x39))

def f115_l1 (x35 : Int) (x37 : List Int) (x38 : Int) (x41 : List Int) : Nat → Int × Int → Option (Int) := loopF (f115_l1_b x35 x37 x38 x41)

theorem f115_l1_ok (x35 : Int) (x36 : Int) (x37 : List Int) (x38 : Int) (x41 : List Int) (x42 : List Int) (k : Nat) (x39 : Int) (x40 : Int) {out : (Int)} (h : f115_l1 x35 x37 x38 x41 k (x39, x40) = some out) : Run Pg 179 (bk1 (sq1 (sq2 (sq2 (bk1 (sq1 (sq2 (lp1 (bk1 (sq2 (sq1 (sq2 (sq2 (sq2 (sq2 (sq2 (sq2 (sq2 (sq2 (sq2 c_115)))))))))))))))))))) ⟨[(6, .d t2 x35), (7, .d t127 x36), (8, .vec 903 t127), (9, .d t83 x37), (10, .vec 1104 t127), (11, .d t2 x38), (13, .d t12 x39), (14, .d t12 x40)], [(903, .vec 127 t127 x41), (1104, .vec 127 t127 x42)]⟩ (f115_l1_post x35 x36 x37 x38 x41 x42 out) := by
 refine Run.loopN (by kernel_rfl) (fun m s => ∃ x39 x40, s = ⟨[(6, .d t2 x35), (7, .d t127 x36), (8, .vec 903 t127), (9, .d t83 x37), (10, .vec 1104 t127), (11, .d t2 x38), (13, .d t12 x39), (14, .d t12 x40)], [(903, .vec 127 t127 x41), (1104, .vec 127 t127 x42)]⟩ ∧ f115_l1 x35 x37 x38 x41 m (x39, x40) = some out) ?_ k ⟨x39, x40,  rfl, h⟩
 rintro m s ⟨x39, x40,  rfl, h⟩
 cases m with
 | zero => cases h
 | succ m =>
 replace h : f115_l1_b x35 x37 x38 x41 (f115_l1 x35 x37 x38 x41 m) (x39, x40) = some out := h
 unfold f115_l1_b at h
 refine Run.sq ?_
 rcases bif_elim h with ⟨hb0, h⟩ | ⟨hb0, h⟩
 ·refine qN [(2, .b true)] 1700 ⟨[(6, .d t2 x35), (7, .d t127 x36), (8, .vec 903 t127), (9, .d t83 x37), (10, .vec 1104 t127), (11, .d t2 x38), (13, .d t12 x39), (14, .d t12 x40), (129, .d t4 true)], [(903, .vec 127 t127 x41), (1104, .vec 127 t127 x42)]⟩ (aC hb0 aN) ?_
  refine Run.cd true (fun hb => ?_) (fun hb => (by cases hb))
  refine Run.sk ?_
  show Run Pg 179 _ _ _
  refine Run.bl 3 ?_
  refine qN [] 1800 ⟨[(6, .d t2 x35), (7, .d t127 x36), (8, .vec 903 t127), (9, .d t83 x37), (10, .vec 1104 t127), (11, .d t2 x38), (13, .d t12 (wrapI .u64 (x39 - (1 : Int)))), (14, .d t12 x40)], [(903, .vec 127 t127 x41), (1104, .vec 127 t127 x42)]⟩ aN ?_
  obtain ⟨g_0, h⟩ := gd_elim h
  obtain ⟨g_1, h⟩ := gd_elim h
  refine qN [] 1900 ⟨[(6, .d t2 x35), (7, .d t127 x36), (8, .vec 903 t127), (9, .d t83 x37), (10, .vec 1104 t127), (11, .d t2 x38), (13, .d t12 (wrapI .u64 (x39 - (1 : Int)))), (14, .d t12 (wrapI .u64 (x40 + (wrapI .u64 (List.getD x37 (toN (wrapI .i64 (x35 - (1 : Int)))) (0 : Int))))))], [(903, .vec 127 t127 x41), (1104, .vec 127 t127 x42)]⟩ (aC g_0 (aC g_1 aN)) ?_
  refine qN [] 2000 ⟨[(6, .d t2 x35), (7, .d t127 x36), (8, .vec 903 t127), (9, .d t83 x37), (10, .vec 1104 t127), (11, .d t2 x38), (13, .d t12 (wrapI .u64 (x39 - (1 : Int)))), (14, .d t12 (wrapI .u64 (x40 + (wrapI .u64 (List.getD x37 (toN (wrapI .i64 (x35 - (1 : Int)))) (0 : Int)))))), (141, .d t4 (decide ((1000000000 : Int) ≤ (wrapI .u64 (x40 + (wrapI .u64 (List.getD x37 (toN (wrapI .i64 (x35 - (1 : Int)))) (0 : Int))))))))], [(903, .vec 127 t127 x41), (1104, .vec 127 t127 x42)]⟩ aN ?_
  refine Run.cd (decide ((1000000000 : Int) ≤ (wrapI .u64 (x40 + (wrapI .u64 (List.getD x37 (toN (wrapI .i64 (x35 - (1 : Int)))) (0 : Int))))))) (fun hb => ?_) (fun hb => ?_)
  ·replace h := bif_t h hb
   refine qK ⟨[(6, .d t2 x35), (7, .d t127 x36), (8, .vec 903 t127), (9, .d t83 x37), (10, .vec 1104 t127), (11, .d t2 x38), (13, .d t12 (wrapI .u64 (x39 - (1 : Int))))], [(903, .vec 127 t127 x41), (1104, .vec 127 t127 x42)]⟩ ?_
   refine Run.ex 2 ?_
   obtain rfl := sI h
   exact ⟨rfl, by kernel_rfl⟩
  ·replace h := bif_f h hb
   refine qK ⟨[(6, .d t2 x35), (7, .d t127 x36), (8, .vec 903 t127), (9, .d t83 x37), (10, .vec 1104 t127), (11, .d t2 x38), (13, .d t12 (wrapI .u64 (x39 - (1 : Int)))), (14, .d t12 (wrapI .u64 (x40 + (wrapI .u64 (List.getD x37 (toN (wrapI .i64 (x35 - (1 : Int)))) (0 : Int))))))], [(903, .vec 127 t127 x41), (1104, .vec 127 t127 x42)]⟩ ?_
   refine Run.sk ?_
   exact ⟨m, Nat.lt_succ_self m, _, _, rfl, h⟩
 ·obtain ⟨g_1, h⟩ := gd_elim h
  obtain ⟨g_2, h⟩ := gd_elim h
  obtain ⟨g_3, h⟩ := gd_elim h
  obtain ⟨g_4, h⟩ := gd_elim h
  obtain ⟨g_5, h⟩ := gd_elim h
  refine qN [(2, .b false)] 1700 ⟨[(6, .d t2 x35), (7, .d t127 x36), (8, .vec 903 t127), (9, .d t83 x37), (10, .vec 1104 t127), (11, .d t2 x38), (13, .d t12 x39), (14, .d t12 x40), (129, .d t4 (decide ((wrapI .u64 ((wrapI .u64 (x40 * (1000000000 : Int))) + (wrapI .u64 (List.getD x41 (toN (wrapI .i64 ((wrapI .i64 (x38 + x35)) - (2 : Int)))) (0 : Int))))) < (wrapI .u64 (x39 * (wrapI .u64 (List.getD x37 (toN (wrapI .i64 (x35 - (2 : Int)))) (0 : Int))))))))], [(903, .vec 127 t127 x41), (1104, .vec 127 t127 x42)]⟩ (aC hb0 (aC g_1 (aC g_2 (aC g_3 (aC g_4 (aC g_5 aN)))))) ?_
  refine Run.cd (decide ((wrapI .u64 ((wrapI .u64 (x40 * (1000000000 : Int))) + (wrapI .u64 (List.getD x41 (toN (wrapI .i64 ((wrapI .i64 (x38 + x35)) - (2 : Int)))) (0 : Int))))) < (wrapI .u64 (x39 * (wrapI .u64 (List.getD x37 (toN (wrapI .i64 (x35 - (2 : Int)))) (0 : Int))))))) (fun hb => ?_) (fun hb => ?_)
  ·replace h := bif_t h hb
   refine Run.sk ?_
   show Run Pg 179 _ _ _
   refine Run.bl 3 ?_
   refine qN [] 1800 ⟨[(6, .d t2 x35), (7, .d t127 x36), (8, .vec 903 t127), (9, .d t83 x37), (10, .vec 1104 t127), (11, .d t2 x38), (13, .d t12 (wrapI .u64 (x39 - (1 : Int)))), (14, .d t12 x40)], [(903, .vec 127 t127 x41), (1104, .vec 127 t127 x42)]⟩ aN ?_
   obtain ⟨g_0, h⟩ := gd_elim h
   obtain ⟨g_1, h⟩ := gd_elim h
   refine qN [] 1900 ⟨[(6, .d t2 x35), (7, .d t127 x36), (8, .vec 903 t127), (9, .d t83 x37), (10, .vec 1104 t127), (11, .d t2 x38), (13, .d t12 (wrapI .u64 (x39 - (1 : Int)))), (14, .d t12 (wrapI .u64 (x40 + (wrapI .u64 (List.getD x37 (toN (wrapI .i64 (x35 - (1 : Int)))) (0 : Int))))))], [(903, .vec 127 t127 x41), (1104, .vec 127 t127 x42)]⟩ (aC g_0 (aC g_1 aN)) ?_
   refine qN [] 2000 ⟨[(6, .d t2 x35), (7, .d t127 x36), (8, .vec 903 t127), (9, .d t83 x37), (10, .vec 1104 t127), (11, .d t2 x38), (13, .d t12 (wrapI .u64 (x39 - (1 : Int)))), (14, .d t12 (wrapI .u64 (x40 + (wrapI .u64 (List.getD x37 (toN (wrapI .i64 (x35 - (1 : Int)))) (0 : Int)))))), (141, .d t4 (decide ((1000000000 : Int) ≤ (wrapI .u64 (x40 + (wrapI .u64 (List.getD x37 (toN (wrapI .i64 (x35 - (1 : Int)))) (0 : Int))))))))], [(903, .vec 127 t127 x41), (1104, .vec 127 t127 x42)]⟩ aN ?_
   refine Run.cd (decide ((1000000000 : Int) ≤ (wrapI .u64 (x40 + (wrapI .u64 (List.getD x37 (toN (wrapI .i64 (x35 - (1 : Int)))) (0 : Int))))))) (fun hb => ?_) (fun hb => ?_)
   ·replace h := bif_t h hb
    refine qK ⟨[(6, .d t2 x35), (7, .d t127 x36), (8, .vec 903 t127), (9, .d t83 x37), (10, .vec 1104 t127), (11, .d t2 x38), (13, .d t12 (wrapI .u64 (x39 - (1 : Int))))], [(903, .vec 127 t127 x41), (1104, .vec 127 t127 x42)]⟩ ?_
    refine Run.ex 2 ?_
    obtain rfl := sI h
    exact ⟨rfl, by kernel_rfl⟩
   ·replace h := bif_f h hb
    refine qK ⟨[(6, .d t2 x35), (7, .d t127 x36), (8, .vec 903 t127), (9, .d t83 x37), (10, .vec 1104 t127), (11, .d t2 x38), (13, .d t12 (wrapI .u64 (x39 - (1 : Int)))), (14, .d t12 (wrapI .u64 (x40 + (wrapI .u64 (List.getD x37 (toN (wrapI .i64 (x35 - (1 : Int)))) (0 : Int))))))], [(903, .vec 127 t127 x41), (1104, .vec 127 t127 x42)]⟩ ?_
    refine Run.sk ?_
    exact ⟨m, Nat.lt_succ_self m, _, _, rfl, h⟩
  ·replace h := bif_f h hb
   refine qK ⟨[(6, .d t2 x35), (7, .d t127 x36), (8, .vec 903 t127), (9, .d t83 x37), (10, .vec 1104 t127), (11, .d t2 x38), (13, .d t12 x39)], [(903, .vec 127 t127 x41), (1104, .vec 127 t127 x42)]⟩ ?_
   refine Run.ex 2 ?_
   obtain rfl := sI h
   exact ⟨rfl, by kernel_rfl⟩

def f115_c2_post (x45 : Int) (x46 : Int) (x47 : List Int) (x48 : Int) (x49 : Int) (x50 : Bool) (x51 : List Int) (x52 : List Int) : (Int × (List Int)) → Ex → St → Prop
 | o, x, s => x = .nrm ∧ s = ⟨[(6, .d t2 x45), (7, .d t127 x46), (8, .vec 903 t127), (9, .d t83 x47), (10, .vec 1104 t127), (11, .d t2 x48), (13, .d t12 o.1)], [(903, .vec 127 t127 o.2), (1104, .vec 127 t127 x52)]⟩

def f115_c2 (x45 : Int) (x47 : List Int) (x48 : Int) (x49 : Int) (x50 : Bool) (x51 : List Int) : Option (Int × (List Int)) :=
 (bif x50 then
 gd (0 < List.length x51) <|
 gd (0 ≤ x48) <|
 gd (x48 ≤ (wrapI .i64 ((wrapI .i64 (x48 + x45)) + (1 : Int)))) <|
 gd ((wrapI .i64 ((wrapI .i64 (x48 + x45)) + (1 : Int))) ≤ ((List.length x51 : Nat) : Int)) <|
 (F130s0 (Int.toNat x48) ((Int.toNat (wrapI .i64 ((wrapI .i64 (x48 + x45)) + (1 : Int)))) - (Int.toNat x48)) x47 x51).bind fun y54 =>
 some ((wrapI .u64 (x49 - (1 : Int))), y54)
 else
 some (x49, x51))

theorem f115_c2_ok (x45 : Int) (x46 : Int) (x47 : List Int) (x48 : Int) (x49 : Int) (x50 : Bool) (x51 : List Int) (x52 : List Int) {out : (Int × (List Int))} (h : f115_c2 x45 x47 x48 x49 x50 x51 = some out) : Run Pg 179 (sq2 (sq1 (sq2 (sq2 (sq2 (bk1 (sq1 (sq2 (lp1 (bk1 (sq2 (sq1 (sq2 (sq2 (sq2 (sq2 (sq2 (sq2 (sq2 (sq2 (sq2 c_115))))))))))))))))))))) ⟨[(6, .d t2 x45), (7, .d t127 x46), (8, .vec 903 t127), (9, .d t83 x47), (10, .vec 1104 t127), (11, .d t2 x48), (13, .d t12 x49), (151, .d t4 x50)], [(903, .vec 127 t127 x51), (1104, .vec 127 t127 x52)]⟩ (f115_c2_post x45 x46 x47 x48 x49 x50 x51 x52 out) := by
 unfold f115_c2 at h
 refine Run.cd x50 (fun hb => ?_) (fun hb => ?_)
 ·replace h := bif_t h hb
  refine qN [] 2200 ⟨[(6, .d t2 x45), (7, .d t127 x46), (8, .vec 903 t127), (9, .d t83 x47), (10, .vec 1104 t127), (11, .d t2 x48), (13, .d t12 (wrapI .u64 (x49 - (1 : Int))))], [(903, .vec 127 t127 x51), (1104, .vec 127 t127 x52)]⟩ aN ?_
  obtain ⟨g_0, h⟩ := gd_elim h
  obtain ⟨g_1, h⟩ := gd_elim h
  obtain ⟨g_2, h⟩ := gd_elim h
  obtain ⟨g_3, h⟩ := gd_elim h
  obtain ⟨y54, h_y54, h⟩ := bnd_elim h
  refine qE [(8, .callS [(1000000, .vec 127 t127 x51)] [(.sub 1000000 t127 (Int.toNat x48) ((Int.toNat (wrapI .i64 ((wrapI .i64 (x48 + x45)) + (1 : Int)))) - (Int.toNat x48))), (.d t83 x47)] [(1000000, 903)] (.tup .vnil) [(1000000, .vec 127 t127 y54)])] 2300 ⟨[(6, .d t2 x45), (7, .d t127 x46), (8, .vec 903 t127), (9, .d t83 x47), (10, .vec 1104 t127), (11, .d t2 x48), (13, .d t12 (wrapI .u64 (x49 - (1 : Int))))], [(903, .vec 127 t127 y54), (1104, .vec 127 t127 x52)]⟩ (aC g_0 (aC g_1 (aC g_2 (aC g_3 (aC (show (([(.sub 903 t127 (Int.toNat x48) ((Int.toNat (wrapI .i64 ((wrapI .i64 (x48 + x45)) + (1 : Int)))) - (Int.toNat x48))), (.d t83 x47)] : List V) = List.map (V.ren (renL [(1000000, 903)] 2308)) [(.sub 1000000 t127 (Int.toNat x48) ((Int.toNat (wrapI .i64 ((wrapI .i64 (x48 + x45)) + (1 : Int)))) - (Int.toNat x48))), (.d t83 x47)]) from (by kernel_rfl)) (aC (c130s0 h_y54) (aC (show ((some (.vec 127 t127 x51) : Option E) = some (E.ren (renL [(1000000, 903)] 2308) (.vec 127 t127 x51))) from (by kernel_rfl)) aN))))))) ?_
  obtain rfl := sI h
  exact ⟨rfl, by kernel_rfl⟩
 ·replace h := bif_f h hb
  refine qK ⟨[(6, .d t2 x45), (7, .d t127 x46), (8, .vec 903 t127), (9, .d t83 x47), (10, .vec 1104 t127), (11, .d t2 x48), (13, .d t12 x49)], [(903, .vec 127 t127 x51), (1104, .vec 127 t127 x52)]⟩ ?_
  refine Run.sk ?_
  obtain rfl := sI h
  exact ⟨rfl, by kernel_rfl⟩

def f115_l0_post (x8 : Int) (x9 : Int) (x10 : List Int) : ((List Int) × (List Int)) → Ex → St → Prop
 | o, x, s => x = .out 0 ∧ s = ⟨[(6, .d t2 x8), (7, .d t127 x9), (8, .vec 903 t127), (10, .vec 1104 t127)], [(903, .vec 127 t127 o.1), (1104, .vec 127 t127 o.2)]⟩

def f115_l0_b (x8 : Int) (x10 : List Int) (again : Int × (List Int) × (List Int) → Option ((List Int) × (List Int))) : Int × (List Int) × (List Int) → Option ((List Int) × (List Int))
 | (x11, x12, x13) =>
 (bif (decide ((0 : Int) ≤ x11)) then
 gd (0 ≤ (wrapI .i64 (x11 + x8))) <|
 gd ((wrapI .i64 (x11 + x8)) < ((List.length x12 : Nat) : Int)) <|
 gd ((toN (wrapI .i64 (x11 + x8))) < List.length x12) <|
 gd (0 ≤ (wrapI .i64 ((wrapI .i64 (x11 + x8)) - (1 : Int)))) <|
 gd ((wrapI .i64 ((wrapI .i64 (x11 + x8)) - (1 : Int))) < ((List.length x12 : Nat) : Int)) <|
 gd ((toN (wrapI .i64 ((wrapI .i64 (x11 + x8)) - (1 : Int)))) < List.length x12) <|
 gd (0 ≤ (wrapI .i64 (x8 - (1 : Int)))) <|
 gd ((wrapI .i64 (x8 - (1 : Int))) < ((List.length x10 : Nat) : Int)) <|
 gd ((wrapI .u64 (List.getD x10 (toN (wrapI .i64 (x8 - (1 : Int)))) (0 : Int))) ≠ 0) <|
 gd (0 ≤ (wrapI .i64 (x8 - (1 : Int)))) <|
 gd ((wrapI .i64 (x8 - (1 : Int))) < ((List.length x10 : Nat) : Int)) <|
 gd ((wrapI .u64 (List.getD x10 (toN (wrapI .i64 (x8 - (1 : Int)))) (0 : Int))) ≠ 0) <|
 ((f115_l1 x8 x10 x11 x12 (2 + List.length x10 + List.length x12 + List.length x13) ((wrapI .u64 (Int.tdiv (wrapI .u64 ((wrapI .u64 ((wrapI .u64 (List.getD x12 (toN (wrapI .i64 (x11 + x8))) (0 : Int))) * (1000000000 : Int))) + (wrapI .u64 (List.getD x12 (toN (wrapI .i64 ((wrapI .i64 (x11 + x8)) - (1 : Int)))) (0 : Int))))) (wrapI .u64 (List.getD x10 (toN (wrapI .i64 (x8 - (1 : Int)))) (0 : Int))))), (Int.tmod (wrapI .u64 ((wrapI .u64 ((wrapI .u64 (List.getD x12 (toN (wrapI .i64 (x11 + x8))) (0 : Int))) * (1000000000 : Int))) + (wrapI .u64 (List.getD x12 (toN (wrapI .i64 ((wrapI .i64 (x11 + x8)) - (1 : Int)))) (0 : Int))))) (wrapI .u64 (List.getD x10 (toN (wrapI .i64 (x8 - (1 : Int)))) (0 : Int)))))).bind fun o43 =>
 gd (0 < List.length x12) <|
 gd (0 ≤ x11) <|
 gd (x11 ≤ (wrapI .i64 ((wrapI .i64 (x11 + x8)) + (1 : Int)))) <|
 gd ((wrapI .i64 ((wrapI .i64 (x11 + x8)) + (1 : Int))) ≤ ((List.length x12 : Nat) : Int)) <|
 (F129s0 (Int.toNat x11) ((Int.toNat (wrapI .i64 ((wrapI .i64 (x11 + x8)) + (1 : Int)))) - (Int.toNat x11)) x10 o43 x12).bind fun y44 =>
 ((f115_c2 x8 x10 x11 o43 y44.1 y44.2).bind fun o55 =>
 gd (0 ≤ x11) <|
 gd (x11 < ((List.length x13 : Nat) : Int)) <|
 gd ((toN x11) < List.length x13) <|
 again ((wrapI .i64 (x11 - (1 : Int))), o55.2, (List.set x13 (toN x11) (wrapI .u32 o55.1)))))
 else
 some (x12, x13))

def f115_l0 (x8 : Int) (x10 : List Int) : Nat → Int × (List Int) × (List Int) → Option ((List Int) × (List Int)) := loopF (f115_l0_b x8 x10)

theorem f115_l0_ok (x8 : Int) (x9 : Int) (x10 : List Int) (k : Nat) (x11 : Int) (x12 : List Int) (x13 : List Int) {out : ((List Int) × (List Int))} (h : f115_l0 x8 x10 k (x11, x12, x13) = some out) : Run Pg 179 (bk1 (sq2 (sq1 (sq2 (sq2 (sq2 (sq2 (sq2 (sq2 (sq2 (sq2 (sq2 c_115)))))))))))) ⟨[(6, .d t2 x8), (7, .d t127 x9), (8, .vec 903 t127), (9, .d t83 x10), (10, .vec 1104 t127), (11, .d t2 x11)], [(903, .vec 127 t127 x12), (1104, .vec 127 t127 x13)]⟩ (f115_l0_post x8 x9 x10 out) := by
 refine Run.loopN (by kernel_rfl) (fun m s => ∃ x11 x12 x13, s = ⟨[(6, .d t2 x8), (7, .d t127 x9), (8, .vec 903 t127), (9, .d t83 x10), (10, .vec 1104 t127), (11, .d t2 x11)], [(903, .vec 127 t127 x12), (1104, .vec 127 t127 x13)]⟩ ∧ f115_l0 x8 x10 m (x11, x12, x13) = some out) ?_ k ⟨x11, x12, x13,  rfl, h⟩
 rintro m s ⟨x11, x12, x13,  rfl, h⟩
 cases m with
 | zero => cases h
 | succ m =>
 replace h : f115_l0_b x8 x10 (f115_l0 x8 x10 m) (x11, x12, x13) = some out := h
 unfold f115_l0_b at h
 refine Run.sq ?_
 refine qN [] 1300 ⟨[(6, .d t2 x8), (7, .d t127 x9), (8, .vec 903 t127), (9, .d t83 x10), (10, .vec 1104 t127), (11, .d t2 x11), (70, .d t4 (decide ((0 : Int) ≤ x11)))], [(903, .vec 127 t127 x12), (1104, .vec 127 t127 x13)]⟩ aN ?_
 refine Run.cd (decide ((0 : Int) ≤ x11)) (fun hb => ?_) (fun hb => ?_)
 ·replace h := bif_t h hb
  refine Run.sk ?_
  show Run Pg 179 _ _ _
  refine Run.sq ?_
  refine Run.bl 1 ?_
  obtain ⟨g_0, h⟩ := gd_elim h
  obtain ⟨g_1, h⟩ := gd_elim h
  obtain ⟨g_2, h⟩ := gd_elim h
  obtain ⟨g_3, h⟩ := gd_elim h
  obtain ⟨g_4, h⟩ := gd_elim h
  obtain ⟨g_5, h⟩ := gd_elim h
  refine qN [] 1500 ⟨[(6, .d t2 x8), (7, .d t127 x9), (8, .vec 903 t127), (9, .d t83 x10), (10, .vec 1104 t127), (11, .d t2 x11), (12, .d t12 (wrapI .u64 ((wrapI .u64 ((wrapI .u64 (List.getD x12 (toN (wrapI .i64 (x11 + x8))) (0 : Int))) * (1000000000 : Int))) + (wrapI .u64 (List.getD x12 (toN (wrapI .i64 ((wrapI .i64 (x11 + x8)) - (1 : Int)))) (0 : Int))))))], [(903, .vec 127 t127 x12), (1104, .vec 127 t127 x13)]⟩ (aC g_0 (aC g_1 (aC g_2 (aC g_3 (aC g_4 (aC g_5 aN)))))) ?_
  obtain ⟨g_0, h⟩ := gd_elim h
  obtain ⟨g_1, h⟩ := gd_elim h
  obtain ⟨g_2, h⟩ := gd_elim h
  obtain ⟨g_3, h⟩ := gd_elim h
  obtain ⟨g_4, h⟩ := gd_elim h
  obtain ⟨g_5, h⟩ := gd_elim h
  refine qN [] 1600 ⟨[(6, .d t2 x8), (7, .d t127 x9), (8, .vec 903 t127), (9, .d t83 x10), (10, .vec 1104 t127), (11, .d t2 x11), (13, .d t12 (wrapI .u64 (Int.tdiv (wrapI .u64 ((wrapI .u64 ((wrapI .u64 (List.getD x12 (toN (wrapI .i64 (x11 + x8))) (0 : Int))) * (1000000000 : Int))) + (wrapI .u64 (List.getD x12 (toN (wrapI .i64 ((wrapI .i64 (x11 + x8)) - (1 : Int)))) (0 : Int))))) (wrapI .u64 (List.getD x10 (toN (wrapI .i64 (x8 - (1 : Int)))) (0 : Int)))))), (14, .d t12 (Int.tmod (wrapI .u64 ((wrapI .u64 ((wrapI .u64 (List.getD x12 (toN (wrapI .i64 (x11 + x8))) (0 : Int))) * (1000000000 : Int))) + (wrapI .u64 (List.getD x12 (toN (wrapI .i64 ((wrapI .i64 (x11 + x8)) - (1 : Int)))) (0 : Int))))) (wrapI .u64 (List.getD x10 (toN (wrapI .i64 (x8 - (1 : Int)))) (0 : Int)))))], [(903, .vec 127 t127 x12), (1104, .vec 127 t127 x13)]⟩ (aC g_0 (aC g_1 (aC g_2 (aC g_3 (aC g_4 (aC g_5 aN)))))) ?_
  refine Run.sq ?_
  refine Run.bl 2 ?_
  obtain ⟨o43, h_o43, h⟩ := bnd_elim h
  refine Run.mono (f115_l1_ok x8 x9 x10 x11 x12 x13 _ (wrapI .u64 (Int.tdiv (wrapI .u64 ((wrapI .u64 ((wrapI .u64 (List.getD x12 (toN (wrapI .i64 (x11 + x8))) (0 : Int))) * (1000000000 : Int))) + (wrapI .u64 (List.getD x12 (toN (wrapI .i64 ((wrapI .i64 (x11 + x8)) - (1 : Int)))) (0 : Int))))) (wrapI .u64 (List.getD x10 (toN (wrapI .i64 (x8 - (1 : Int)))) (0 : Int))))) (Int.tmod (wrapI .u64 ((wrapI .u64 ((wrapI .u64 (List.getD x12 (toN (wrapI .i64 (x11 + x8))) (0 : Int))) * (1000000000 : Int))) + (wrapI .u64 (List.getD x12 (toN (wrapI .i64 ((wrapI .i64 (x11 + x8)) - (1 : Int)))) (0 : Int))))) (wrapI .u64 (List.getD x10 (toN (wrapI .i64 (x8 - (1 : Int)))) (0 : Int)))) h_o43) ?_
  rintro _ _ ⟨rfl, rfl⟩
  show Run Pg 179 _ _ _
  refine Run.sq ?_
  obtain ⟨g_0, h⟩ := gd_elim h
  obtain ⟨g_1, h⟩ := gd_elim h
  obtain ⟨g_2, h⟩ := gd_elim h
  obtain ⟨g_3, h⟩ := gd_elim h
  obtain ⟨y44, h_y44, h⟩ := bnd_elim h
  refine qN [(9, .callS [(1000000, .vec 127 t127 x12)] [(.sub 1000000 t127 (Int.toNat x11) ((Int.toNat (wrapI .i64 ((wrapI .i64 (x11 + x8)) + (1 : Int)))) - (Int.toNat x11))), (.d t83 x10), (.d t12 o43)] [(1000000, 903)] (.d t4 y44.1) [(1000000, .vec 127 t127 y44.2)])] 2100 ⟨[(6, .d t2 x8), (7, .d t127 x9), (8, .vec 903 t127), (9, .d t83 x10), (10, .vec 1104 t127), (11, .d t2 x11), (13, .d t12 o43), (151, .d t4 y44.1)], [(903, .vec 127 t127 y44.2), (1104, .vec 127 t127 x13)]⟩ (aC g_0 (aC g_1 (aC g_2 (aC g_3 (aC (show (([(.sub 903 t127 (Int.toNat x11) ((Int.toNat (wrapI .i64 ((wrapI .i64 (x11 + x8)) + (1 : Int)))) - (Int.toNat x11))), (.d t83 x10), (.d t12 o43)] : List V) = List.map (V.ren (renL [(1000000, 903)] 2109)) [(.sub 1000000 t127 (Int.toNat x11) ((Int.toNat (wrapI .i64 ((wrapI .i64 (x11 + x8)) + (1 : Int)))) - (Int.toNat x11))), (.d t83 x10), (.d t12 o43)]) from (by kernel_rfl)) (aC (c129s0 h_y44) (aC (show ((some (.vec 127 t127 x12) : Option E) = some (E.ren (renL [(1000000, 903)] 2109) (.vec 127 t127 x12))) from (by kernel_rfl)) aN))))))) ?_
  obtain ⟨o55, h_o55, h⟩ := bnd_elim h
  refine Run.mono (f115_c2_ok x8 x9 x10 x11 o43 y44.1 y44.2 x13 h_o55) ?_
  rintro _ _ ⟨rfl, rfl⟩
  show Run Pg 179 _ _ _
  obtain ⟨g_0, h⟩ := gd_elim h
  obtain ⟨g_1, h⟩ := gd_elim h
  obtain ⟨g_2, h⟩ := gd_elim h
  refine qE [] 2400 ⟨[(6, .d t2 x8), (7, .d t127 x9), (8, .vec 903 t127), (9, .d t83 x10), (10, .vec 1104 t127), (11, .d t2 x11)], [(903, .vec 127 t127 o55.2), (1104, .vec 127 t127 (List.set x13 (toN x11) (wrapI .u32 o55.1)))]⟩ (aC g_0 (aC g_1 (aC g_2 aN))) ?_
  show Run Pg 179 _ _ _
  refine qE [] 1400 ⟨[(6, .d t2 x8), (7, .d t127 x9), (8, .vec 903 t127), (9, .d t83 x10), (10, .vec 1104 t127), (11, .d t2 (wrapI .i64 (x11 - (1 : Int))))], [(903, .vec 127 t127 o55.2), (1104, .vec 127 t127 (List.set x13 (toN x11) (wrapI .u32 o55.1)))]⟩ aN ?_
  exact ⟨m, Nat.lt_succ_self m, _, _, _, rfl, h⟩
 ·replace h := bif_f h hb
  refine qK ⟨[(6, .d t2 x8), (7, .d t127 x9), (8, .vec 903 t127), (10, .vec 1104 t127)], [(903, .vec 127 t127 x12), (1104, .vec 127 t127 x13)]⟩ ?_
  refine Run.ex 0 ?_
  obtain rfl := sI h
  exact ⟨rfl, by kernel_rfl⟩

def F115 (a0 : List Int) (a1 : List Int) : Option ((List Int) × (List Int)) :=
 (F117 a0).bind fun y1 =>
 (F117 a1).bind fun y2 =>
 (bif ((ofN (List.length y2)) == (1 : Int)) then
 gd ((0 : Int) < ((List.length y2 : Nat) : Int)) <|
 (F128 y1 (List.getD y2 (toN (0 : Int)) (0 : Int))).bind fun y3 =>
 some (y3.1, y3.2)
 else
 (F97 y1 y2).bind fun y4 =>
 (bif (decide (y4 < (0 : Int))) then
 gd (List.length y1 ≤ 1073741824) <|
 some (([] : List Int), y1)
 else
 gd (0 ≤ (wrapI .i64 ((ofN (List.length y2)) - (1 : Int)))) <|
 gd ((wrapI .i64 ((ofN (List.length y2)) - (1 : Int))) < ((List.length y2 : Nat) : Int)) <|
 gd ((wrapI .u64 ((wrapI .u64 (List.getD y2 (toN (wrapI .i64 ((ofN (List.length y2)) - (1 : Int)))) (0 : Int))) + (1 : Int))) ≠ 0) <|
 (F95o y1 ([(wrapI .u32 (wrapI .u64 (Int.tdiv (1000000000 : Int) (wrapI .u64 ((wrapI .u64 (List.getD y2 (toN (wrapI .i64 ((ofN (List.length y2)) - (1 : Int)))) (0 : Int))) + (1 : Int))))))] : List Int)).bind fun y5 =>
 gd (List.length (y5 ++ ([(0 : Int)] : List Int)) ≤ 1073741824) <|
 (F95 y2 ([(wrapI .u32 (wrapI .u64 (Int.tdiv (1000000000 : Int) (wrapI .u64 ((wrapI .u64 (List.getD y2 (toN (wrapI .i64 ((ofN (List.length y2)) - (1 : Int)))) (0 : Int))) + (1 : Int))))))] : List Int)).bind fun y6 =>
 (F117 y6).bind fun y7 =>
 gd (0 ≤ (wrapI .i64 ((ofN (List.length (y5 ++ ([(0 : Int)] : List Int)))) - (ofN (List.length y2))))) <|
 gd ((wrapI .i64 ((ofN (List.length (y5 ++ ([(0 : Int)] : List Int)))) - (ofN (List.length y2)))) ≤ (wrapI .i64 ((ofN (List.length (y5 ++ ([(0 : Int)] : List Int)))) - (ofN (List.length y2))))) <|
 gd ((wrapI .i64 ((ofN (List.length (y5 ++ ([(0 : Int)] : List Int)))) - (ofN (List.length y2)))) ≤ 1073741824) <|
 ((f115_l0 (ofN (List.length y2)) y7 (2 + List.length y7 + List.length (y5 ++ ([(0 : Int)] : List Int)) + List.length (List.replicate (toN (wrapI .i64 ((ofN (List.length (y5 ++ ([(0 : Int)] : List Int)))) - (ofN (List.length y2))))) (0 : Int))) ((wrapI .i64 ((wrapI .i64 ((ofN (List.length (y5 ++ ([(0 : Int)] : List Int)))) - (ofN (List.length y2)))) - (1 : Int))), (y5 ++ ([(0 : Int)] : List Int)), (List.replicate (toN (wrapI .i64 ((ofN (List.length (y5 ++ ([(0 : Int)] : List Int)))) - (ofN (List.length y2))))) (0 : Int)))).bind fun o56 =>
 gd (0 ≤ (ofN (List.length y2))) <|
 gd ((ofN (List.length y2)) ≤ ((List.length o56.1 : Nat) : Int)) <|
 (F117 (List.take (Int.toNat (ofN (List.length y2))) o56.1)).bind fun y57 =>
 (F128 y57 (wrapI .u32 (wrapI .u64 (Int.tdiv (1000000000 : Int) (wrapI .u64 ((wrapI .u64 (List.getD y2 (toN (wrapI .i64 ((ofN (List.length y2)) - (1 : Int)))) (0 : Int))) + (1 : Int))))))).bind fun y58 =>
 some (o56.2, y58.1))))

theorem c115 {a0 : List Int} {a1 : List Int} {r : (List Int) × (List Int)} (h : F115 a0 a1 = some r) : CallPure Pg 115 [(.d t83 a0), (.d t83 a1)] (.tup (.vcons (.d t83 r.1) (.vcons (.d t83 r.2) .vnil))) := by
 refine qC c_115 179 [.tmp 4, .tmp 5] [83, 83] Go.Proofs.Tryz.func115 ?_
 show Run Pg 179 c_115 ⟨[(0, .d t83 a0), (1, .d t83 a1)], []⟩ (fin115 r)
 unfold F115 at h
 refine qN [] 100 ⟨[(0, .d t83 a0), (1, .d t83 a1)], []⟩ aN ?_
 obtain ⟨y1, h_y1, h⟩ := bnd_elim h
 obtain ⟨y2, h_y2, h⟩ := bnd_elim h
 refine qN [(1, .call (.d t83 y1)), (3, .call (.d t83 y2))] 200 ⟨[(0, .d t83 y1), (1, .d t83 y2)], []⟩ (aC (c117 h_y1) (aC (c117 h_y2) aN)) ?_
 refine Run.sq ?_
 refine qN [] 300 ⟨[(0, .d t83 y1), (1, .d t83 y2), (23, .d t4 ((ofN (List.length y2)) == (1 : Int)))], []⟩ aN ?_
 refine Run.cd ((ofN (List.length y2)) == (1 : Int)) (fun hb => ?_) (fun hb => ?_)
 ·replace h := bif_t h hb
  obtain ⟨g_1, h⟩ := gd_elim h
  obtain ⟨y3, h_y3, h⟩ := bnd_elim h
  refine qN [(4, .call (.tup (.vcons (.d t83 y3.1) (.vcons (.d t83 y3.2) .vnil))))] 400 ⟨[(4, .d t83 y3.1), (5, .d t83 y3.2)], []⟩ (aC (show (0 ≤ (0 : Int)) from (by decide)) (aC g_1 (aC (c128 h_y3) aN))) ?_
  refine Run.rt ?_
  obtain rfl := sI h
  exact qR [(.d t83 y3.1), (.d t83 y3.2)]
 ·replace h := bif_f h hb
  refine Run.sk ?_
  show Run Pg 179 _ _ _
  refine Run.sq ?_
  obtain ⟨y4, h_y4, h⟩ := bnd_elim h
  refine qN [(2, .call (.d t2 y4))] 500 ⟨[(0, .d t83 y1), (1, .d t83 y2), (34, .d t4 (decide (y4 < (0 : Int))))], []⟩ (aC (c97 h_y4) aN) ?_
  refine Run.cd (decide (y4 < (0 : Int))) (fun hb => ?_) (fun hb => ?_)
  ·replace h := bif_t h hb
   obtain ⟨g_0, h⟩ := gd_elim h
   refine qN [] 600 ⟨[(4, .nil), (5, .d t83 y1)], []⟩ (aC g_0 aN) ?_
   refine Run.rt ?_
   obtain rfl := sI h
   exact qR [(.d t83 ([] : List Int)), (.d t83 y1)]
  ·replace h := bif_f h hb
   refine Run.sk ?_
   show Run Pg 179 _ _ _
   refine qN [] 700 ⟨[(0, .d t83 y1), (1, .d t83 y2), (6, .d t2 (ofN (List.length y2)))], []⟩ aN ?_
   obtain ⟨g_0, h⟩ := gd_elim h
   obtain ⟨g_1, h⟩ := gd_elim h
   obtain ⟨g_2, h⟩ := gd_elim h
   refine qN [] 800 ⟨[(0, .d t83 y1), (1, .d t83 y2), (6, .d t2 (ofN (List.length y2))), (7, .d t127 (wrapI .u32 (wrapI .u64 (Int.tdiv (1000000000 : Int) (wrapI .u64 ((wrapI .u64 (List.getD y2 (toN (wrapI .i64 ((ofN (List.length y2)) - (1 : Int)))) (0 : Int))) + (1 : Int)))))))], []⟩ (aC g_0 (aC g_1 (aC g_2 aN))) ?_
   obtain ⟨y5, h_y5, h⟩ := bnd_elim h
   obtain ⟨g_1, h⟩ := gd_elim h
   refine qN [(3, .callO 127 t127 y5)] 900 ⟨[(1, .d t83 y2), (6, .d t2 (ofN (List.length y2))), (7, .d t127 (wrapI .u32 (wrapI .u64 (Int.tdiv (1000000000 : Int) (wrapI .u64 ((wrapI .u64 (List.getD y2 (toN (wrapI .i64 ((ofN (List.length y2)) - (1 : Int)))) (0 : Int))) + (1 : Int))))))), (8, .vec 903 t127)], [(903, .vec 127 t127 (y5 ++ ([(0 : Int)] : List Int)))]⟩ (aC (c95o h_y5) (aC g_1 aN)) ?_
   obtain ⟨y6, h_y6, h⟩ := bnd_elim h
   obtain ⟨y7, h_y7, h⟩ := bnd_elim h
   refine qN [(3, .call (.d t83 y6)), (4, .call (.d t83 y7))] 1000 ⟨[(6, .d t2 (ofN (List.length y2))), (7, .d t127 (wrapI .u32 (wrapI .u64 (Int.tdiv (1000000000 : Int) (wrapI .u64 ((wrapI .u64 (List.getD y2 (toN (wrapI .i64 ((ofN (List.length y2)) - (1 : Int)))) (0 : Int))) + (1 : Int))))))), (8, .vec 903 t127), (9, .d t83 y7)], [(903, .vec 127 t127 (y5 ++ ([(0 : Int)] : List Int)))]⟩ (aC (c95 h_y6) (aC (c117 h_y7) aN)) ?_
   obtain ⟨g_0, h⟩ := gd_elim h
   obtain ⟨g_1, h⟩ := gd_elim h
   obtain ⟨g_2, h⟩ := gd_elim h
   refine qN [] 1100 ⟨[(6, .d t2 (ofN (List.length y2))), (7, .d t127 (wrapI .u32 (wrapI .u64 (Int.tdiv (1000000000 : Int) (wrapI .u64 ((wrapI .u64 (List.getD y2 (toN (wrapI .i64 ((ofN (List.length y2)) - (1 : Int)))) (0 : Int))) + (1 : Int))))))), (8, .vec 903 t127), (9, .d t83 y7), (10, .vec 1104 t127)], [(903, .vec 127 t127 (y5 ++ ([(0 : Int)] : List Int))), (1104, .vec 127 t127 (List.replicate (toN (wrapI .i64 ((ofN (List.length (y5 ++ ([(0 : Int)] : List Int)))) - (ofN (List.length y2))))) (0 : Int)))]⟩ (aC g_0 (aC g_1 (aC g_2 aN))) ?_
   refine Run.sq ?_
   refine qN [] 1200 ⟨[(6, .d t2 (ofN (List.length y2))), (7, .d t127 (wrapI .u32 (wrapI .u64 (Int.tdiv (1000000000 : Int) (wrapI .u64 ((wrapI .u64 (List.getD y2 (toN (wrapI .i64 ((ofN (List.length y2)) - (1 : Int)))) (0 : Int))) + (1 : Int))))))), (8, .vec 903 t127), (9, .d t83 y7), (10, .vec 1104 t127), (11, .d t2 (wrapI .i64 ((wrapI .i64 ((ofN (List.length (y5 ++ ([(0 : Int)] : List Int)))) - (ofN (List.length y2)))) - (1 : Int))))], [(903, .vec 127 t127 (y5 ++ ([(0 : Int)] : List Int))), (1104, .vec 127 t127 (List.replicate (toN (wrapI .i64 ((ofN (List.length (y5 ++ ([(0 : Int)] : List Int)))) - (ofN (List.length y2))))) (0 : Int)))]⟩ aN ?_
   refine Run.bl 0 ?_
   obtain ⟨o56, h_o56, h⟩ := bnd_elim h
   refine Run.mono (f115_l0_ok (ofN (List.length y2)) (wrapI .u32 (wrapI .u64 (Int.tdiv (1000000000 : Int) (wrapI .u64 ((wrapI .u64 (List.getD y2 (toN (wrapI .i64 ((ofN (List.length y2)) - (1 : Int)))) (0 : Int))) + (1 : Int)))))) y7 _ (wrapI .i64 ((wrapI .i64 ((ofN (List.length (y5 ++ ([(0 : Int)] : List Int)))) - (ofN (List.length y2)))) - (1 : Int))) (y5 ++ ([(0 : Int)] : List Int)) (List.replicate (toN (wrapI .i64 ((ofN (List.length (y5 ++ ([(0 : Int)] : List Int)))) - (ofN (List.length y2))))) (0 : Int)) h_o56) ?_
   rintro _ _ ⟨rfl, rfl⟩
   show Run Pg 179 _ _ _
   refine Run.freeze (s' := ⟨[(6, .d t2 (ofN (List.length y2))), (7, .d t127 (wrapI .u32 (wrapI .u64 (Int.tdiv (1000000000 : Int) (wrapI .u64 ((wrapI .u64 (List.getD y2 (toN (wrapI .i64 ((ofN (List.length y2)) - (1 : Int)))) (0 : Int))) + (1 : Int))))))), (8, .d t83 o56.1), (10, .vec 1104 t127)], [(1104, .vec 127 t127 o56.2)]⟩) 903 (by kernel_rfl) ?_
   obtain ⟨g_0, h⟩ := gd_elim h
   obtain ⟨g_1, h⟩ := gd_elim h
   obtain ⟨y57, h_y57, h⟩ := bnd_elim h
   obtain ⟨y58, h_y58, h⟩ := bnd_elim h
   refine qN [(3, .call (.d t83 y57)), (5, .call (.tup (.vcons (.d t83 y58.1) (.vcons (.d t83 y58.2) .vnil))))] 2500 ⟨[(10, .vec 1104 t127), (15, .d t83 y58.1)], [(1104, .vec 127 t127 o56.2)]⟩ (aC g_0 (aC g_1 (aC (c117 h_y57) (aC (c128 h_y58) aN)))) ?_
   refine qN [] 2600 ⟨[(4, .vec 1104 t127), (5, .d t83 y58.1)], [(1104, .vec 127 t127 o56.2)]⟩ aN ?_
   refine Run.freeze (s' := ⟨[(4, .d t83 o56.2), (5, .d t83 y58.1)], []⟩) 1104 (by kernel_rfl) ?_
   refine Run.rt ?_
   obtain rfl := sI h
   exact qR [(.d t83 o56.2), (.d t83 y58.1)]

/-! ## f93 -/

noncomputable def c_93 : Code := body0 Go.Proofs.Tryz.f93

def fin93 (r : IntL) : Ex → St → Prop := endK X0 [.cell 4 85] [85] (.d t84 r)

def f93_l1_post (x22 : IntL) : (Int) → Ex → St → Prop
 | o, x, s => x = .out 2 ∧ s = ⟨[(4, .ptr 102 0), (7, .d t12 o)], [(102, bx t84 x22)]⟩

def f93_l1_b  (again : Int × Int → Option (Int)) : Int × Int → Option (Int)
 | (x20, x21) =>
 (bif (decide ((0 : Int) < x21)) then
 gd (x21 ≠ 0) <|
 again (x21, (Int.tmod x20 x21))
 else
 some x20)

def f93_l1  : Nat → Int × Int → Option (Int) := loopF (f93_l1_b )

theorem f93_l1_ok (x22 : IntL) (k : Nat) (x20 : Int) (x21 : Int) {out : (Int)} (h : f93_l1  k (x20, x21) = some out) : Run Pg 61 (bk1 (sq1 (cd1 (sq2 (sq1 (sq2 (sq2 (bk1 (sq2 (lp1 (bk1 (sq1 (sq2 (sq2 c_93)))))))))))))) ⟨[(4, .ptr 102 0), (7, .d t12 x20), (9, .d t12 x21)], [(102, bx t84 x22)]⟩ (f93_l1_post x22 out) := by
 refine Run.loopN (by kernel_rfl) (fun m s => ∃ x20 x21, s = ⟨[(4, .ptr 102 0), (7, .d t12 x20), (9, .d t12 x21)], [(102, bx t84 x22)]⟩ ∧ f93_l1  m (x20, x21) = some out) ?_ k ⟨x20, x21,  rfl, h⟩
 rintro m s ⟨x20, x21,  rfl, h⟩
 cases m with
 | zero => cases h
 | succ m =>
 replace h : f93_l1_b  (f93_l1  m) (x20, x21) = some out := h
 unfold f93_l1_b at h
 refine Run.sq ?_
 refine qN [] 700 ⟨[(4, .ptr 102 0), (7, .d t12 x20), (9, .d t12 x21), (38, .d t4 (decide ((0 : Int) < x21)))], [(102, bx t84 x22)]⟩ aN ?_
 refine Run.cd (decide ((0 : Int) < x21)) (fun hb => ?_) (fun hb => ?_)
 ·replace h := bif_t h hb
  refine Run.sk ?_
  show Run Pg 61 _ _ _
  refine Run.bl 3 ?_
  obtain ⟨g_0, h⟩ := gd_elim h
  refine qE [] 800 ⟨[(4, .ptr 102 0), (7, .d t12 x21), (9, .d t12 (Int.tmod x20 x21))], [(102, bx t84 x22)]⟩ (aC g_0 aN) ?_
  exact ⟨m, Nat.lt_succ_self m, _, _, rfl, h⟩
 ·replace h := bif_f h hb
  refine qK ⟨[(4, .ptr 102 0), (7, .d t12 x20)], [(102, bx t84 x22)]⟩ ?_
  refine Run.ex 2 ?_
  obtain rfl := sI h
  exact ⟨rfl, by kernel_rfl⟩

def f93_l0_post (x3 : IntL) : ((IntL) ⊕ (IntL)) → Ex → St → Prop
 | .inl o, x, s => x = .out 0 ∧ s = ⟨[(4, .ptr 102 0), (5, .ptr 206 0)], [(102, bx t84 x3), (206, bx t84 o)]⟩
 | .inr o, x, s => x = .ret ∧ fin93  o x s

def f93_l0_b  (again : RatL → Option ((IntL) ⊕ (IntL))) : RatL → Option ((IntL) ⊕ (IntL))
 | (x4, x5) =>
 (bif (decide ((0 : Int) < (ofN (List.length x5.2)))) then
 (F114 x4).bind fun y18 =>
 (F114 x5).bind fun y19 =>
 (bif y18.2 then
 (bif y19.2 then
 ((f93_l1  (2 + Int.toNat y19.1) (y18.1, y19.1)).bind fun o23 =>
 (F90 o23).bind fun y24 =>
 (F89 false y24).bind fun y25 =>
 some (.inr y25))
 else
 (F115 x4.2 x5.2).bind fun y26 =>
 (F89 false y26.2).bind fun y27 =>
 again (x5, y27))
 else
 (F115 x4.2 x5.2).bind fun y28 =>
 (F89 false y28.2).bind fun y29 =>
 again (x5, y29))
 else
 some (.inl x4))

def f93_l0  : Nat → RatL → Option ((IntL) ⊕ (IntL)) := loopF (f93_l0_b )

theorem f93_l0_ok (x3 : IntL) (k : Nat) (x4 : IntL) (x5 : IntL) {out : ((IntL) ⊕ (IntL))} (h : f93_l0  k (x4, x5) = some out) : Run Pg 61 (bk1 (sq1 (sq2 (sq2 c_93)))) ⟨[(4, .ptr 102 0), (5, .ptr 206 0), (6, .ptr 207 0)], [(102, bx t84 x3), (206, bx t84 x4), (207, bx t84 x5)]⟩ (f93_l0_post x3 out) := by
 refine Run.loopN (by kernel_rfl) (fun m s => ∃ x4 x5, s = ⟨[(4, .ptr 102 0), (5, .ptr 206 0), (6, .ptr 207 0)], [(102, bx t84 x3), (206, bx t84 x4), (207, bx t84 x5)]⟩ ∧ f93_l0  m (x4, x5) = some out) ?_ k ⟨x4, x5,  rfl, h⟩
 rintro m s ⟨x4, x5,  rfl, h⟩
 cases m with
 | zero => cases h
 | succ m =>
 replace h : f93_l0_b  (f93_l0  m) (x4, x5) = some out := h
 unfold f93_l0_b at h
 refine Run.sq ?_
 refine qN [] 300 ⟨[(4, .ptr 102 0), (5, .ptr 206 0), (6, .ptr 207 0), (22, .d t4 (decide ((0 : Int) < (ofN (List.length x5.2)))))], [(102, bx t84 x3), (206, bx t84 x4), (207, bx t84 x5)]⟩ aN ?_
 refine Run.cd (decide ((0 : Int) < (ofN (List.length x5.2)))) (fun hb => ?_) (fun hb => ?_)
 ·replace h := bif_t h hb
  refine Run.sk ?_
  show Run Pg 61 _ _ _
  refine Run.bl 1 ?_
  obtain ⟨y18, h_y18, h⟩ := bnd_elim h
  refine qN [(1, .call (.tup (.vcons (.d t12 y18.1) (.vcons (.d t4 y18.2) .vnil))))] 400 ⟨[(4, .ptr 102 0), (5, .ptr 206 0), (6, .ptr 207 0), (7, .d t12 y18.1), (8, .d t4 y18.2)], [(102, bx t84 x3), (206, bx t84 x4), (207, bx t84 x5)]⟩ (aC (c114 h_y18) aN) ?_
  obtain ⟨y19, h_y19, h⟩ := bnd_elim h
  refine qN [(1, .call (.tup (.vcons (.d t12 y19.1) (.vcons (.d t4 y19.2) .vnil))))] 500 ⟨[(4, .ptr 102 0), (5, .ptr 206 0), (6, .ptr 207 0), (7, .d t12 y18.1), (8, .d t4 y18.2), (9, .d t12 y19.1), (10, .d t4 y19.2)], [(102, bx t84 x3), (206, bx t84 x4), (207, bx t84 x5)]⟩ (aC (c114 h_y19) aN) ?_
  refine Run.sq ?_
  rcases bif_elim h with ⟨hb0, h⟩ | ⟨hb0, h⟩
  ·refine qN [(1, .b true)] 600 ⟨[(4, .ptr 102 0), (5, .ptr 206 0), (6, .ptr 207 0), (7, .d t12 y18.1), (9, .d t12 y19.1), (36, .d t4 y19.2)], [(102, bx t84 x3), (206, bx t84 x4), (207, bx t84 x5)]⟩ (aC hb0 aN) ?_
   refine Run.cd y19.2 (fun hb => ?_) (fun hb => ?_)
   ·replace h := bif_t h hb
    refine Run.sq ?_
    refine Run.bl 2 ?_
    refine qK ⟨[(4, .ptr 102 0), (7, .d t12 y18.1), (9, .d t12 y19.1)], [(102, bx t84 x3)]⟩ ?_
    obtain ⟨o23, h_o23, h⟩ := bnd_elim h
    refine Run.mono (f93_l1_ok x3 _ y18.1 y19.1 h_o23) ?_
    rintro _ _ ⟨rfl, rfl⟩
    show Run Pg 61 _ _ _
    obtain ⟨y24, h_y24, h⟩ := bnd_elim h
    obtain ⟨y25, h_y25, h⟩ := bnd_elim h
    refine qN [(1, .call (.d t83 y24)), (2, .call (.d t84 y25))] 900 ⟨[(4, .ptr 102 0)], [(102, bx t84 y25)]⟩ (aC (c90 h_y24) (aC (c89 h_y25) aN)) ?_
    refine Run.rt ?_
    obtain rfl := sI h
    exact ⟨rfl, [(.d t84 y25)], by kernel_rfl, by kernel_rfl⟩
   ·replace h := bif_f h hb
    refine Run.sk ?_
    show Run Pg 61 _ _ _
    obtain ⟨y26, h_y26, h⟩ := bnd_elim h
    refine qN [(4, .call (.tup (.vcons (.d t83 y26.1) (.vcons (.d t83 y26.2) .vnil))))] 1000 ⟨[(4, .ptr 102 0), (5, .ptr 206 0), (6, .ptr 207 0), (12, .d t83 y26.2)], [(102, bx t84 x3), (206, bx t84 x4), (207, bx t84 x5)]⟩ (aC (c115 h_y26) aN) ?_
    obtain ⟨y27, h_y27, h⟩ := bnd_elim h
    refine qE [(2, .call (.d t84 y27))] 1100 ⟨[(4, .ptr 102 0), (5, .ptr 206 0), (6, .ptr 207 0)], [(102, bx t84 x3), (206, bx t84 x5), (207, bx t84 y27)]⟩ (aC (c89 h_y27) aN) ?_
    exact ⟨m, Nat.lt_succ_self m, _, _, rfl, h⟩
  ·refine qN [(1, .b false)] 600 ⟨[(4, .ptr 102 0), (5, .ptr 206 0), (6, .ptr 207 0), (7, .d t12 y18.1), (9, .d t12 y19.1), (36, .d t4 false)], [(102, bx t84 x3), (206, bx t84 x4), (207, bx t84 x5)]⟩ (aC hb0 aN) ?_
   refine Run.cd false (fun hb => (by cases hb)) (fun hb => ?_)
   refine Run.sk ?_
   show Run Pg 61 _ _ _
   obtain ⟨y28, h_y28, h⟩ := bnd_elim h
   refine qN [(4, .call (.tup (.vcons (.d t83 y28.1) (.vcons (.d t83 y28.2) .vnil))))] 1000 ⟨[(4, .ptr 102 0), (5, .ptr 206 0), (6, .ptr 207 0), (12, .d t83 y28.2)], [(102, bx t84 x3), (206, bx t84 x4), (207, bx t84 x5)]⟩ (aC (c115 h_y28) aN) ?_
   obtain ⟨y29, h_y29, h⟩ := bnd_elim h
   refine qE [(2, .call (.d t84 y29))] 1100 ⟨[(4, .ptr 102 0), (5, .ptr 206 0), (6, .ptr 207 0)], [(102, bx t84 x3), (206, bx t84 x5), (207, bx t84 y29)]⟩ (aC (c89 h_y29) aN) ?_
   exact ⟨m, Nat.lt_succ_self m, _, _, rfl, h⟩
 ·replace h := bif_f h hb
  refine qK ⟨[(4, .ptr 102 0), (5, .ptr 206 0)], [(102, bx t84 x3), (206, bx t84 x4)]⟩ ?_
  refine Run.ex 0 ?_
  obtain rfl := sI h
  exact ⟨rfl, by kernel_rfl⟩

def F93 (a0 : IntL) (a1 : IntL) : Option (IntL) :=
 (F89 false a0.2).bind fun y1 =>
 (F89 false a1.2).bind fun y2 =>
 ((f93_l0  (2 + valF y2.2) (y1, y2)).bind fun o30 => match o30 with
 | .inl o31 =>
 gd (List.length o31.2 ≤ 1073741824) <|
 (F89 false o31.2).bind fun y32 =>
 some y32
 | .inr o33 =>
 some o33)

theorem c93 {a0 : IntL} {a1 : IntL} {r : IntL} (h : F93 a0 a1 = some r) : CallPure Pg 93 [(.d t84 a0), (.d t84 a1)] (.d t84 r) := by
 refine qC c_93 61 [.cell 4 85] [85] Go.Proofs.Tryz.func93 ?_
 show Run Pg 61 c_93 ⟨[(0, .d t84 a0), (1, .d t84 a1)], []⟩ (fin93 r)
 unfold F93 at h
 refine qN [] 100 ⟨[(2, .ptr 100 0), (3, .ptr 101 0), (4, .ptr 102 0)], [(100, bx t84 a0), (101, bx t84 a1), (102, bx t84 (false, ([] : List Int)))]⟩ aN ?_
 obtain ⟨y1, h_y1, h⟩ := bnd_elim h
 obtain ⟨y2, h_y2, h⟩ := bnd_elim h
 refine qN [(2, .call (.d t84 y1)), (5, .call (.d t84 y2))] 200 ⟨[(4, .ptr 102 0), (5, .ptr 206 0), (6, .ptr 207 0)], [(102, bx t84 (false, ([] : List Int))), (206, bx t84 y1), (207, bx t84 y2)]⟩ (aC (c89 h_y1) (aC (c89 h_y2) aN)) ?_
 refine Run.sq ?_
 refine Run.bl 0 ?_
 obtain ⟨o30, h_o30, h⟩ := bnd_elim h
 refine Run.mono (f93_l0_ok (false, ([] : List Int)) _ y1 y2 h_o30) ?_
 rcases o30 with o31 | o33
 ·rintro _ _ ⟨rfl, rfl⟩
  show Run Pg 61 _ _ _
  obtain ⟨g_0, h⟩ := gd_elim h
  obtain ⟨y32, h_y32, h⟩ := bnd_elim h
  refine qN [(3, .call (.d t84 y32))] 1200 ⟨[(4, .ptr 102 0)], [(102, bx t84 y32)]⟩ (aC g_0 (aC (c89 h_y32) aN)) ?_
  refine Run.rt ?_
  obtain rfl := sI h
  exact qR [(.d t84 y32)]
 ·rintro _ s ⟨rfl, hr⟩
  obtain rfl := sI h
  exact hr

/-! ## f78 -/

noncomputable def c_78 : Code := body0 Go.Proofs.Tryz.f78

def fin78 (r : Int) : Ex → St → Prop := endK X0 [.tmp 4] [3] (.d t2 r)

def F78 (a0 : IntL) (a1 : IntL) : Option (Int) :=
 (bif (!(a0.1 == a1.1)) then
 (bif a0.1 then
 some (-1 : Int)
 else
 some (1 : Int))
 else
 (bif a0.1 then
 (F97 a1.2 a0.2).bind fun y1 =>
 some y1
 else
 (F97 a0.2 a1.2).bind fun y2 =>
 some y2))

theorem c78 {a0 : IntL} {a1 : IntL} {r : Int} (h : F78 a0 a1 = some r) : CallPure Pg 78 [(.d t84 a0), (.d t84 a1)] (.d t2 r) := by
 refine qC c_78 24 [.tmp 4] [3] Go.Proofs.Tryz.func78 ?_
 show Run Pg 24 c_78 ⟨[(0, .d t84 a0), (1, .d t84 a1)], []⟩ (fin78 r)
 unfold F78 at h
 refine qN [] 100 ⟨[(2, .ptr 100 0), (3, .ptr 101 0)], [(100, bx t84 a0), (101, bx t84 a1)]⟩ aN ?_
 refine Run.sq ?_
 refine qN [] 200 ⟨[(2, .ptr 100 0), (3, .ptr 101 0), (9, .d t4 (!(a0.1 == a1.1)))], [(100, bx t84 a0), (101, bx t84 a1)]⟩ aN ?_
 refine Run.cd (!(a0.1 == a1.1)) (fun hb => ?_) (fun hb => ?_)
 ·replace h := bif_t h hb
  refine Run.sq ?_
  refine qN [] 300 ⟨[(11, .d t4 a0.1)], []⟩ aN ?_
  refine Run.cd a0.1 (fun hb => ?_) (fun hb => ?_)
  ·replace h := bif_t h hb
   refine qN [] 400 ⟨[(4, .d t2 (-1 : Int))], []⟩ aN ?_
   refine Run.rt ?_
   obtain rfl := sI h
   exact qR [(.d t2 (-1 : Int))]
  ·replace h := bif_f h hb
   refine Run.sk ?_
   show Run Pg 24 _ _ _
   refine qN [] 500 ⟨[(4, .d t2 (1 : Int))], []⟩ aN ?_
   refine Run.rt ?_
   obtain rfl := sI h
   exact qR [(.d t2 (1 : Int))]
 ·replace h := bif_f h hb
  refine Run.sk ?_
  show Run Pg 24 _ _ _
  refine Run.sq ?_
  refine qN [] 600 ⟨[(2, .ptr 100 0), (3, .ptr 101 0), (13, .d t4 a0.1)], [(100, bx t84 a0), (101, bx t84 a1)]⟩ aN ?_
  refine Run.cd a0.1 (fun hb => ?_) (fun hb => ?_)
  ·replace h := bif_t h hb
   obtain ⟨y1, h_y1, h⟩ := bnd_elim h
   refine qN [(4, .call (.d t2 y1))] 700 ⟨[(4, .d t2 y1)], []⟩ (aC (c97 h_y1) aN) ?_
   refine Run.rt ?_
   obtain rfl := sI h
   exact qR [(.d t2 y1)]
  ·replace h := bif_f h hb
   refine Run.sk ?_
   show Run Pg 24 _ _ _
   obtain ⟨y2, h_y2, h⟩ := bnd_elim h
   refine qN [(4, .call (.d t2 y2))] 800 ⟨[(4, .d t2 y2)], []⟩ (aC (c97 h_y2) aN) ?_
   refine Run.rt ?_
   obtain rfl := sI h
   exact qR [(.d t2 y2)]


end Go.Sw
