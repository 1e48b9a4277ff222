/- Each function of the code computes the Lean function of the same number wherever that has a value; no other conditions. -/
import Derived.Test.YtnjgokpdlolapaaGreatDoorSwd
import Derived.Test.YtnjgokpdlolapaaGreatDoorProg
namespace Go.Sw
open Go Go.Sw
set_option linter.unusedSimpArgs false
set_option linter.unusedVariables false
def rept : Nat → T → T
 | 0, t => .one t
 | 1, t => .one t
 | n + 2, t => .cons t (rept (n + 1) t)
@[reducible] def bx (n : Nat) (t : T) (x : t.D) : E := .box n (.vcons (.d t x) .vnil)
abbrev IntL := Bool × (List Int)
abbrev RatL := IntL × IntL
abbrev t2 : T := (.int .i64)
abbrev t4 : T := .bool
abbrev t5 : T := (.int .u8)
abbrev t7 : T := (.st (.cons t2 (.cons t2 (.cons t4 (.one t5)))))
abbrev t9 : T := .str
abbrev t12 : T := (.int .u64)
abbrev t13 : T := (.st (.cons t9 (.one t12)))
abbrev t15 : T := (.con 0)
abbrev t18 : T := (.st (.one t15))
abbrev t20 : T := (.con 1)
abbrev t21 : T := (.int .i32)
abbrev t56 : T := (.st (rept 5 t2))
abbrev t22 : T := (.sl t56)
abbrev t23 : T := (.st (.cons t2 (.cons t2 (.cons t2 (.cons t2 (.cons t2 (.cons t2 (.cons t22 (.one t2)))))))))
abbrev t31 : T := (.st (.cons t2 (.one t2)))
abbrev t33 : T := (.st (.cons t31 (.one t31)))
abbrev t37 : T := (.st (.cons t31 (.cons t31 (.one t2))))
abbrev t38 : T := (.sl t37)
abbrev t39 : T := (.sl t2)
abbrev t48 : T := (.sl t5)
abbrev t49 : T := (.st (.cons t15 (.one t48)))
abbrev t158 : T := (.int .u32)
abbrev t66 : T := (.sl t158)
abbrev t67 : T := (.st (.cons t4 (.one t66)))
abbrev t69 : T := (.st (.cons t67 (.one t67)))
abbrev t101 : T := (.st (.cons t2 (.cons t2 (.one t9))))
abbrev t77 : T := (.sl t101)
abbrev t78 : T := (.st (.cons t2 (.one t77)))
abbrev t74 : T := (.sl t78)
abbrev t86 : T := (.st (.cons t69 (.one t69)))
abbrev t89 : T := (.sl t86)
abbrev t95 : T := (.sl t9)
abbrev t119 : T := (.sl t69)
abbrev t144 : T := (.st (rept 256 t4))
abbrev t178 : T := (.st (rept 24 t5))
abbrev t203 : T := (.st (rept 20 t12))
abbrev t204 : T := (.st (rept 65 t5))
abbrev t213 : T := (.st (.cons t9 (.cons t9 (.one t20))))
abbrev t218 : T := (.st (rept 256 t5))
abbrev t219 : T := (.st (.cons t5 (.one t5)))
abbrev t221 : T := (.st (rept 16 t219))
abbrev t224 : T := (.st (.one t9))
abbrev t226 : T := (.st (rept 32 t5))
abbrev t227 : T := (.st (rept 64 t5))
abbrev t229 : T := (.st (.cons t15 (.cons t15 (.cons t15 (.one t9)))))
def tyL : List (Option T) := [none, none, some t2, some t2, some t4, some t5, some t5, some t7, some t7, some t9, some t9, some t9, some t12, some t13, some t13, some t15, some t15, some t15, some t18, some t18, some t20, some t21, some t22, some t23, some t23, none, some t2, none, none, none, none, some t31, some t31, some t33, none, none, none, some t37, some t38, some t39, none, none, none, none, none, none, none, some t15, some t48, some t49, some t49, some t20, some t20, none, none, none, some t56, some t56, none, none, some t39, none, none, none, none, none, some t66, some t67, some t67, some t69, some t69, none, none, none, some t74, none, none, some t77, some t78, some t78, none, none, none, some t15, none, none, some t86, some t86, none, some t89, none, none, none, none, none, some t95, none, none, none, none, none, some t101, some t101, none, none, none, none, some t12, none, none, none, none, none, none, none, none, none, none, none, some t119, none, none, none, none, none, none, none, none, none, none, none, none, none, some t12, none, none, none, none, none, none, none, none, none, none, some t144, some t144, none, none, none, some t15, none, none, none, none, none, none, none, none, some t158, none, none, none, none, none, none, none, none, none, none, none, none, none, none, none, none, none, none, none, some t178, none, none, none, none, none, none, none, none, none, none, none, none, none, none, none, none, some t2, none, none, some t15, none, none, none, none, some t203, some t204, none, none, none, none, none, none, none, none, some t213, some t213, none, none, none, some t218, some t219, some t219, some t221, none, some t15, some t224, some t224, some t226, some t227, none, some t229, some t229, none, none, none, some t5, some t5, none, some t21, some t21, none, none]
def scL : List Bool := [false, true, false, false, false, false, false, false, false, false, false, false, false, false, false, true, true, true, false, false, true, false, false, false, false, true, false, false, true, true, true, false, false, false, true, false, true, false, false, false, true, true, true, false, true, true, true, true, false, false, false, true, true, false, true, true, false, false, true, true, false, true, true, true, true, true, false, false, false, false, false, true, true, true, false, false, true, false, false, false, false, true, true, true, true, true, false, false, true, false, true, true, true, true, true, false, true, false, true, true, true, false, false, false, true, false, true, false, true, true, false, true, true, true, true, true, true, true, true, false, true, true, true, true, true, true, true, true, true, false, true, true, true, false, false, true, true, true, true, false, true, false, true, true, false, false, false, true, true, true, true, true, true, true, true, true, true, true, false, true, false, true, true, true, false, true, true, true, false, true, false, true, true, false, true, true, true, true, false, true, true, false, true, false, true, true, true, false, true, false, true, true, true, true, true, false, false, true, true, true, true, true, true, false, false, true, true, true, true, true, true, true, true, false, false, true, true, true, false, false, false, false, true, true, false, false, false, false, true, false, false, false, false, false, false, false, true, false, false, false, false]
def elL : List Nat := [0, 0, 0, 0, 0, 0, 0, 0, 0, 0, 0, 0, 0, 0, 0, 0, 0, 0, 0, 0, 0, 0, 57, 0, 0, 0, 0, 0, 0, 0, 0, 0, 0, 0, 0, 0, 0, 0, 37, 3, 0, 0, 0, 0, 0, 0, 0, 0, 5, 0, 0, 0, 0, 0, 0, 0, 0, 0, 0, 0, 2, 0, 0, 0, 0, 0, 158, 0, 0, 0, 0, 0, 0, 0, 79, 0, 0, 102, 0, 0, 0, 0, 0, 0, 0, 0, 0, 0, 0, 87, 0, 0, 0, 0, 0, 9, 0, 0, 0, 0, 0, 0, 0, 0, 0, 0, 0, 0, 0, 0, 0, 0, 0, 0, 0, 0, 0, 0, 0, 70, 0, 0, 0, 0, 0, 0, 0, 0, 0, 0, 0, 0, 0, 0, 0, 0, 0, 0, 0, 0, 0, 0, 0, 0, 0, 0, 0, 0, 0, 0, 0, 0, 0, 0, 0, 0, 0, 0, 0, 0, 0, 0, 0, 0, 0, 0, 0, 0, 0, 0, 0, 0, 0, 0, 0, 0, 0, 0, 0, 0, 0, 0, 0, 0, 0, 0, 0, 0, 0, 0, 0, 0, 0, 0, 0, 0, 0, 0, 0, 0, 0, 0, 0, 0, 0, 0, 0, 0, 0, 0, 0, 0, 0, 0, 0, 0, 0, 0, 0, 0, 0, 0, 0, 0, 0, 0, 0, 0, 0, 0, 0, 0, 0, 0, 0, 0, 0, 0, 0, 0, 0]
def arL : List Bool := [false, false, false, false, false, false, false, false, false, false, false, false, false, false, false, false, false, false, false, false, false, false, false, false, false, false, false, false, false, false, false, false, false, true, false, false, false, false, false, false, false, false, false, false, false, false, false, false, false, false, false, false, false, false, false, false, false, false, false, false, false, false, false, false, false, false, false, false, false, false, false, false, false, false, false, false, false, false, false, false, false, false, false, false, false, false, false, false, false, false, false, false, false, false, false, false, false, false, false, false, false, false, false, false, false, false, false, false, false, false, false, false, false, false, false, false, false, false, false, false, false, false, false, false, false, false, false, false, false, false, false, false, false, false, false, false, false, false, false, false, false, false, false, false, true, true, false, false, false, false, false, false, false, false, false, false, false, false, false, false, false, false, false, false, false, false, false, false, false, false, false, false, false, false, false, false, false, false, true, false, false, false, false, false, false, false, false, false, false, false, false, false, false, false, false, false, false, false, false, false, false, false, false, true, true, false, false, false, false, false, false, false, false, false, false, false, false, false, true, false, false, true, false, false, false, false, true, true, false, false, false, true, false, false, false, false, false, false, false, false, false]
def fnL : List Bool := [false, false, true, true, true, true, true, true, true, true, true, true, true, true, true, true, true, true, true, true, true, true, true, true, true, true, true, true, true, true, true, true, true, true, true, true, true, true, true, true, true, true, true, true, true, true, true, true, true, true, true, true, true, true, true, true, true, true, true, true, false, true, true, true, true, true, true, true, true, true, true, true, true, true, true, true, true, true, true, true, true, true, true, true, true, true, true, true, true, true, true, true, true, true, true, true, true, true, true, true, true, true, true, true, true, true, true, true, true, true, true, true, true, true, true, true, true, true, true, true, true, true, true, true, true, true, true, true, true, true, true, true, true, true, true, true, true, true, true, true, true, true, true, true, true, true, true, true, true, true, true, true, true, true, true, true, true, true, true, true, true, true, true, true, true, true, true, true, true, true, true, true, false, true, false, false, true, true, true, true, true, true, true, true, true, true, true, true, true, true, true, true, true, true, true, true, true, true, true, true, true, true, true, true, true, true, true, true, false, true, true, true, true, true, true, true, true, true, true, true, true, true, true, true, true, true, false, false, false, false, false, false, false, false, false, false, false, false, false, false, false]
def eqL : List Bool := [false, false, false, false, false, false, false, false, false, false, false, false, false, false, false, false, false, false, false, false, false, false, false, false, false, false, false, false, false, false, false, false, false, false, false, false, false, false, false, false, false, false, false, false, false, false, false, false, false, false, false, false, false, false, false, false, false, true, false, false, false, false, false, false, false, false, false, false, false, false, false, false, false, false, false, false, false, false, false, false, false, false, false, false, false, false, false, false, false, false, false, false, false, false, false, false, false, false, false, false, false, false, false, false, false, false, false, false, false, false, false, false, false, false, false, false, false, false, false, false, false, false, false, false, false, false, false, false, false, false, false, false, false, false, false, false, false, false, false, false, false, false, false, false, false, false, false, false, false, false, false, false, false, false, false, false, false, false, false, false, false, false, false, false, false, false, false, false, false, false, false, false, false, false, false, false, false, false, false, false, false, false, false, false, false, false, false, false, false, false, false, false, false, false, false, false, false, false, false, false, false, false, false, false, false, false, false, false, false, false, false, false, false, false, false, false, false, false, false, false, false, false, false, false, false, false, false, false, false, false, false, false, false, false, false, false, false, false, false, false, false]
def X0 : Ctx := ⟨fun n => tyL.getD n none, fun n => scL.getD n false, fun n => elL.getD n 0, fun n => arL.getD n false, fun n => fnL.getD n false, fun n => eqL.getD n false⟩
noncomputable abbrev Pg : Program := Go.Proofs.Tryz.prog
theorem hX : TyOk Pg X0 := by
 refine TyOk.of 241 (by kernel_rfl) (fun i hi => ⟨?_, ?_, ?_, ?_⟩) (by kernel_rfl)
 ·exact getD_out _ () (by have : fnL.length = 241 := rfl; omega)
 ·exact getD_out _ () (by have : tyL.length = 241 := rfl; omega)
 ·exact getD_out _ () (by have : scL.length = 241 := rfl; omega)
 ·exact getD_out _ () (by have : eqL.length = 241 := rfl; omega)
section
variable {n : Nat} {c : Code} {s : St} {K : Ex → St → Prop}
theorem qN (hs : List (Nat × Hint)) (base : Nat) (s' : St) {cs : List Prop} (hc : AllP cs) (hk : Run Pg n (sq2 c) s' K) (hq : isSeq c = true := by kernel_rfl) (hev : evAtP Pg X0 n (sq1 c) hs base (s'.1.map (·.1)) (s'.2.map (·.1)) s = some (s', cs) := by kernel_rfl) : Run Pg n c s K := Run.rN hX hs base _ _ s' hc hk hq hev
theorem qE (hs : List (Nat × Hint)) (base : Nat) (s' : St) {cs : List Prop} (hc : AllP cs) (hk : K .nrm s') (hev : evAtP Pg X0 n c hs base (s'.1.map (·.1)) (s'.2.map (·.1)) s = some (s', cs) := by kernel_rfl) : Run Pg n c s K := Run.rE hX hs base _ _ s' hc hk hev
theorem qK (s' : St) (hr : Run Pg n c s' K) (h : s.keep (s'.1.map (·.1)) (s'.2.map (·.1)) = some s' := by kernel_rfl) : Run Pg n c s K := Run.kp _ _ hr h
end
theorem qC {f : FuncId} {fn : Func} (c : Code) (n : Nat) (rv : List ResultVar) (tys : List TypeId) (hf : Pg.funcs[f]? = some fn) {args : List V} {r : V} (h : Run Pg n c (St.enter args) (endK X0 rv tys r)) (hb : fn.body = some c := by kernel_rfl) (hn : fn.ntmps = n := by kernel_rfl) (hrv : fn.results.toList = rv := by kernel_rfl) (hl : args.length.ble n = true := by exact rfl) (hpa : args.all V.pure = true := by exact rfl) (hp : r.pure = true := by exact rfl) : CallPure Pg f args r := callPureN hX c n rv tys hf hb hn hrv (Nat.le_of_ble_eq_true hl) hpa hp h
theorem qR {s : St} {rs : List ResultVar} {tys : List TypeId} {r : V} (l : List V) (h1 : evRes X0 s rs tys = some l := by kernel_rfl) (h2 : resV l = some r := by kernel_rfl) : ∃ l, evRes X0 s rs tys = some l ∧ resV l = some r := ⟨l, h1, h2⟩

/-! ## f26 -/
noncomputable def c_26 : Code := body0 Go.Proofs.Tryz.f26
def fin26 (r : Bool) : Ex → St → Prop := endK X0 [.tmp 8] [4] (.d t4 r)
def F26 (a0 : Int) (a1 : Int) (a2 : Int) (a3 : Int) : Option (Bool) :=
 (bif (decide (a0 < a2)) then
 (bif (decide (a1 < a3)) then
 (bif (decide ((-10000000 : Int) ≤ a0)) then
 (bif (decide ((-10000000 : Int) ≤ a1)) then
 (bif (decide (a2 ≤ (10000000 : Int))) then
 some (decide (a3 ≤ (10000000 : Int)))
 else
 some false)
 else
 some false)
 else
 some false)
 else
 some false)
 else
 some false)
theorem c26 {a0 : Int} {a1 : Int} {a2 : Int} {a3 : Int} {r : Bool} (h : F26 a0 a1 a2 a3 = some r) : CallPure Pg 26 [(.d t2 a0), (.d t2 a1), (.d t2 a2), (.d t2 a3)] (.d t4 r) := by
 refine qC c_26 33 [.tmp 8] [4] Go.Proofs.Tryz.func26 ?_
 show Run Pg 33 c_26 ⟨[(0, .d t2 a0), (1, .d t2 a1), (2, .d t2 a2), (3, .d t2 a3)], []⟩ (fin26 r)
 unfold F26 at h
 refine qN [] 100 ⟨[(0, .d t2 a0), (1, .d t2 a1), (2, .d t2 a2), (3, .d t2 a3)], []⟩ aN ?_
 rcases bif_elim h with ⟨hb0, h⟩ | ⟨hb0, h⟩
 ·rcases bif_elim h with ⟨hb1, h⟩ | ⟨hb1, h⟩
  ·rcases bif_elim h with ⟨hb2, h⟩ | ⟨hb2, h⟩
   ·rcases bif_elim h with ⟨hb3, h⟩ | ⟨hb3, h⟩
    ·rcases bif_elim h with ⟨hb4, h⟩ | ⟨hb4, h⟩
     ·refine qN [(3, .b true), (8, .b true), (12, .b true), (16, .b true), (20, .b true)] 200 ⟨[(8, .d t4 (decide (a3 ≤ (10000000 : Int))))], []⟩ (aC hb0 (aC hb1 (aC hb2 (aC hb3 (aC hb4 aN))))) ?_
      refine Run.rt ?_
      obtain rfl := sI h
      exact qR [(.d t4 (decide (a3 ≤ (10000000 : Int))))]
     ·refine qN [(3, .b true), (8, .b true), (12, .b true), (16, .b true), (20, .b false)] 200 ⟨[(8, .d t4 false)], []⟩ (aC hb0 (aC hb1 (aC hb2 (aC hb3 (aC hb4 aN))))) ?_
      refine Run.rt ?_
      obtain rfl := sI h
      exact qR [(.d t4 false)]
    ·refine qN [(3, .b true), (8, .b true), (12, .b true), (16, .b false)] 200 ⟨[(8, .d t4 false)], []⟩ (aC hb0 (aC hb1 (aC hb2 (aC hb3 aN)))) ?_
     refine Run.rt ?_
     obtain rfl := sI h
     exact qR [(.d t4 false)]
   ·refine qN [(3, .b true), (8, .b true), (12, .b false)] 200 ⟨[(8, .d t4 false)], []⟩ (aC hb0 (aC hb1 (aC hb2 aN))) ?_
    refine Run.rt ?_
    obtain rfl := sI h
    exact qR [(.d t4 false)]
  ·refine qN [(3, .b true), (8, .b false)] 200 ⟨[(8, .d t4 false)], []⟩ (aC hb0 (aC hb1 aN)) ?_
   refine Run.rt ?_
   obtain rfl := sI h
   exact qR [(.d t4 false)]
 ·refine qN [(3, .b false)] 200 ⟨[(8, .d t4 false)], []⟩ (aC hb0 aN) ?_
  refine Run.rt ?_
  obtain rfl := sI h
  exact qR [(.d t4 false)]

/-! ## f27 -/
noncomputable def c_27 : Code := body0 Go.Proofs.Tryz.f27
def fin27 (r : Bool) : Ex → St → Prop := endK X0 [.tmp 4] [4] (.d t4 r)
def F27 (a0 : Int) (a1 : Int) : Option (Bool) :=
 (bif (decide (a1 ≤ a0)) then
 some (decide (a0 ≤ (10000000 : Int)))
 else
 some false)
theorem c27 {a0 : Int} {a1 : Int} {r : Bool} (h : F27 a0 a1 = some r) : CallPure Pg 27 [(.d t2 a0), (.d t2 a1)] (.d t4 r) := by
 refine qC c_27 12 [.tmp 4] [4] Go.Proofs.Tryz.func27 ?_
 show Run Pg 12 c_27 ⟨[(0, .d t2 a0), (1, .d t2 a1)], []⟩ (fin27 r)
 unfold F27 at h
 refine qN [] 100 ⟨[(0, .d t2 a0), (1, .d t2 a1)], []⟩ aN ?_
 rcases bif_elim h with ⟨hb0, h⟩ | ⟨hb0, h⟩
 ·refine qN [(3, .b true)] 200 ⟨[(4, .d t4 (decide (a0 ≤ (10000000 : Int))))], []⟩ (aC hb0 aN) ?_
  refine Run.rt ?_
  obtain rfl := sI h
  exact qR [(.d t4 (decide (a0 ≤ (10000000 : Int))))]
 ·refine qN [(3, .b false)] 200 ⟨[(4, .d t4 false)], []⟩ (aC hb0 aN) ?_
  refine Run.rt ?_
  obtain rfl := sI h
  exact qR [(.d t4 false)]

/-! ## f21 -/
noncomputable def c_21 : Code := body0 Go.Proofs.Tryz.f21
def fin21 (r : Int) : Ex → St → Prop := endK X0 [.tmp 2] [2] (.d t2 r)
def F21 (a0 : Int × Int × Int × Int × Int × Int × (List (Int × Int × Int × Int × Int)) × Int) : Option (Int) :=
 some (wrapI .i64 ((wrapI .i64 (0 - a0.2.2.2.2.1)) - a0.2.2.2.2.2.1))
theorem c21 {a0 : Int × Int × Int × Int × Int × Int × (List (Int × Int × Int × Int × Int)) × Int} {r : Int} (h : F21 a0 = some r) : CallPure Pg 21 [(.d t23 a0)] (.d t2 r) := by
 refine qC c_21 9 [.tmp 2] [2] Go.Proofs.Tryz.func21 ?_
 show Run Pg 9 c_21 ⟨[(0, .d t23 a0)], []⟩ (fin21 r)
 unfold F21 at h
 refine qN [] 100 ⟨[(1, .ptr 100 0)], [(100, bx 24 t23 a0)]⟩ aN ?_
 refine qN [] 200 ⟨[(2, .d t2 (wrapI .i64 ((wrapI .i64 (0 - a0.2.2.2.2.1)) - a0.2.2.2.2.2.1)))], []⟩ aN ?_
 refine Run.rt ?_
 obtain rfl := sI h
 exact qR [(.d t2 (wrapI .i64 ((wrapI .i64 (0 - a0.2.2.2.2.1)) - a0.2.2.2.2.2.1)))]

/-! ## f10 -/
noncomputable def c_10 : Code := body0 Go.Proofs.Tryz.f10
def fin10 (r : Int) : Ex → St → Prop := endK X0 [.tmp 2] [26] (.d t2 r)
def f10_l0_post (x5 : List (Int × Int × Int × Int × Int)) (x6 : Int) (x8 : Int × Int × Int × Int × Int × Int × (List (Int × Int × Int × Int × Int)) × Int) : ((Unit) ⊕ (Int)) → Ex → St → Prop
 | .inl o, x, s => x = .out 0 ∧ s = ⟨[], []⟩
 | .inr o, x, s => x = .ret ∧ fin10  o x s
def f10_l0_b (x5 : List (Int × Int × Int × Int × Int)) (x6 : Int) (x8 : Int × Int × Int × Int × Int × Int × (List (Int × Int × Int × Int × Int)) × Int) (again : Int → Option ((Unit) ⊕ (Int))) : Int → Option ((Unit) ⊕ (Int))
 | x7 =>
 (bif (decide (x7 < x6)) then
 gd (0 ≤ x7) <|
 gd (x7 < ((List.length x5 : Nat) : Int)) <|
 (F26 (List.getD x5 (toN x7) ((0 : Int), (0 : Int), (0 : Int), (0 : Int), (0 : Int))).1 (List.getD x5 (toN x7) ((0 : Int), (0 : Int), (0 : Int), (0 : Int), (0 : Int))).2.1 (List.getD x5 (toN x7) ((0 : Int), (0 : Int), (0 : Int), (0 : Int), (0 : Int))).2.2.1 (List.getD x5 (toN x7) ((0 : Int), (0 : Int), (0 : Int), (0 : Int), (0 : Int))).2.2.2.1).bind fun y12 =>
 (bif (!y12) then
 some (.inr (1 : Int))
 else
 (F21 x8).bind fun y13 =>
 (F27 (List.getD x5 (toN x7) ((0 : Int), (0 : Int), (0 : Int), (0 : Int), (0 : Int))).2.2.2.2 (max2i y13 (-10000000 : Int))).bind fun y14 =>
 (bif (!y14) then
 some (.inr (1 : Int))
 else
 (bif (decide (x8.2.2.2.2.2.2.2 ≤ (List.getD x5 (toN x7) ((0 : Int), (0 : Int), (0 : Int), (0 : Int), (0 : Int))).2.2.2.2)) then
 some (.inr (1 : Int))
 else
 again (wrapI .i64 (x7 + (1 : Int))))))
 else
 some (.inl ()))
def f10_l0 (x5 : List (Int × Int × Int × Int × Int)) (x6 : Int) (x8 : Int × Int × Int × Int × Int × Int × (List (Int × Int × Int × Int × Int)) × Int) : Nat → Int → Option ((Unit) ⊕ (Int)) := loopF (f10_l0_b x5 x6 x8)
theorem f10_l0_ok (x5 : List (Int × Int × Int × Int × Int)) (x6 : Int) (x8 : Int × Int × Int × Int × Int × Int × (List (Int × Int × Int × Int × Int)) × Int) (k : Nat) (x7 : Int) {out : ((Unit) ⊕ (Int))} (h : f10_l0 x5 x6 x8 k x7 = some out) : Run Pg 73 (bk1 (sq2 (sq1 (sq2 (sq2 c_10))))) ⟨[(1, .ptr 100 0), (40, .d t22 x5), (41, .d t2 x6), (42, .d t2 x7)], [(100, bx 24 t23 x8)]⟩ (f10_l0_post x5 x6 x8 out) := by
 refine Run.loopN (by kernel_rfl) (fun m s => ∃ x7, s = ⟨[(1, .ptr 100 0), (40, .d t22 x5), (41, .d t2 x6), (42, .d t2 x7)], [(100, bx 24 t23 x8)]⟩ ∧ f10_l0 x5 x6 x8 m x7 = some out) ?_ k ⟨x7,  rfl, h⟩
 rintro m s ⟨x7,  rfl, h⟩
 cases m with
 | zero => cases h
 | succ m =>
 replace h : f10_l0_b x5 x6 x8 (f10_l0 x5 x6 x8 m) x7 = some out := h
 unfold f10_l0_b at h
 refine qN [] 500 ⟨[(1, .ptr 100 0), (40, .d t22 x5), (41, .d t2 x6), (42, .d t2 x7), (43, .d t4 (decide (x7 < x6)))], [(100, bx 24 t23 x8)]⟩ aN ?_
 refine Run.sq ?_
 refine Run.cd (decide (x7 < x6)) (fun hb => ?_) (fun hb => ?_)
 ·replace h := bif_t h hb
  refine Run.sk ?_
  show Run Pg 73 _ _ _
  refine Run.sq ?_
  refine Run.bl 1 ?_
  obtain ⟨g_0, h⟩ := gd_elim h
  obtain ⟨g_1, h⟩ := gd_elim h
  refine qN [] 600 ⟨[(1, .ptr 100 0), (4, .ptr 602 0), (40, .d t22 x5), (41, .d t2 x6), (42, .d t2 x7)], [(100, bx 24 t23 x8), (602, bx 57 t56 (List.getD x5 (toN x7) ((0 : Int), (0 : Int), (0 : Int), (0 : Int), (0 : Int))))]⟩ (aC g_0 (aC g_1 aN)) ?_
  obtain ⟨y12, h_y12, h⟩ := bnd_elim h
  rcases bif_elim h with ⟨hb1, h⟩ | ⟨hb1, h⟩
  ·refine qN [(8, .call (.d t4 y12)), (10, .b true)] 700 ⟨[(1, .ptr 100 0), (40, .d t22 x5), (41, .d t2 x6), (42, .d t2 x7), (71, .d t4 true)], [(100, bx 24 t23 x8)]⟩ (aC (c26 h_y12) (aC hb1 aN)) ?_
   refine Run.cd true (fun hb => ?_) (fun hb => (by cases hb))
   refine qN [] 800 ⟨[(2, .d t2 (1 : Int))], []⟩ aN ?_
   refine Run.rt ?_
   obtain rfl := sI h
   exact ⟨rfl, [(.d t2 (1 : Int))], by kernel_rfl, by kernel_rfl⟩
  ·obtain ⟨y13, h_y13, h⟩ := bnd_elim h
   obtain ⟨y14, h_y14, h⟩ := bnd_elim h
   rcases bif_elim h with ⟨hb4, h⟩ | ⟨hb4, h⟩
   ·refine qN [(8, .call (.d t4 y12)), (10, .b false), (14, .call (.d t2 y13)), (16, .call (.d t4 y14)), (19, .b true)] 700 ⟨[(1, .ptr 100 0), (40, .d t22 x5), (41, .d t2 x6), (42, .d t2 x7), (71, .d t4 true)], [(100, bx 24 t23 x8)]⟩ (aC (c26 h_y12) (aC hb1 (aC (c21 h_y13) (aC (c27 h_y14) (aC hb4 aN))))) ?_
    refine Run.cd true (fun hb => ?_) (fun hb => (by cases hb))
    refine qN [] 800 ⟨[(2, .d t2 (1 : Int))], []⟩ aN ?_
    refine Run.rt ?_
    obtain rfl := sI h
    exact ⟨rfl, [(.d t2 (1 : Int))], by kernel_rfl, by kernel_rfl⟩
   ·refine qN [(8, .call (.d t4 y12)), (10, .b false), (14, .call (.d t2 y13)), (16, .call (.d t4 y14)), (19, .b false)] 700 ⟨[(1, .ptr 100 0), (40, .d t22 x5), (41, .d t2 x6), (42, .d t2 x7), (71, .d t4 (decide (x8.2.2.2.2.2.2.2 ≤ (List.getD x5 (toN x7) ((0 : Int), (0 : Int), (0 : Int), (0 : Int), (0 : Int))).2.2.2.2)))], [(100, bx 24 t23 x8)]⟩ (aC (c26 h_y12) (aC hb1 (aC (c21 h_y13) (aC (c27 h_y14) (aC hb4 aN))))) ?_
    refine Run.cd (decide (x8.2.2.2.2.2.2.2 ≤ (List.getD x5 (toN x7) ((0 : Int), (0 : Int), (0 : Int), (0 : Int), (0 : Int))).2.2.2.2)) (fun hb => ?_) (fun hb => ?_)
    ·replace h := bif_t h hb
     refine qN [] 800 ⟨[(2, .d t2 (1 : Int))], []⟩ aN ?_
     refine Run.rt ?_
     obtain rfl := sI h
     exact ⟨rfl, [(.d t2 (1 : Int))], by kernel_rfl, by kernel_rfl⟩
    ·replace h := bif_f h hb
     refine Run.sk ?_
     show Run Pg 73 _ _ _
     refine qE [] 900 ⟨[(1, .ptr 100 0), (40, .d t22 x5), (41, .d t2 x6), (42, .d t2 (wrapI .i64 (x7 + (1 : Int))))], [(100, bx 24 t23 x8)]⟩ aN ?_
     exact ⟨m, Nat.lt_succ_self m, _, rfl, h⟩
 ·replace h := bif_f h hb
  refine qK ⟨[], []⟩ ?_
  refine Run.ex 0 ?_
  obtain rfl := sI h
  exact ⟨rfl, by kernel_rfl⟩
def F10 (a0 : Int × Int × Int × Int × Int × Int × (List (Int × Int × Int × Int × Int)) × Int) : Option (Int) :=
 (F26 a0.1 a0.2.1 a0.2.2.1 a0.2.2.2.1).bind fun y1 =>
 (bif (!y1) then
 some (1 : Int)
 else
 (F27 a0.2.2.2.2.1 (1 : Int)).bind fun y2 =>
 (bif (!y2) then
 some (1 : Int)
 else
 (F27 a0.2.2.2.2.2.1 (0 : Int)).bind fun y3 =>
 (bif (!y3) then
 some (1 : Int)
 else
 (F27 a0.2.2.2.2.2.2.2 (1 : Int)).bind fun y4 =>
 (bif (!y4) then
 some (1 : Int)
 else
 (bif (decide ((50 : Int) < (ofN (List.length a0.2.2.2.2.2.2.1)))) then
 some (1 : Int)
 else
 ((f10_l0 a0.2.2.2.2.2.2.1 (ofN (List.length a0.2.2.2.2.2.2.1)) a0 (2 + List.length a0.2.2.2.2.2.2.1) (0 : Int)).bind fun o15 => match o15 with
 | .inl o16 =>
 some (0 : Int)
 | .inr o17 =>
 some o17))))))
theorem c10 {a0 : Int × Int × Int × Int × Int × Int × (List (Int × Int × Int × Int × Int)) × Int} {r : Int} (h : F10 a0 = some r) : CallPure Pg 10 [(.d t23 a0)] (.d t2 r) := by
 refine qC c_10 73 [.tmp 2] [26] Go.Proofs.Tryz.func10 ?_
 show Run Pg 73 c_10 ⟨[(0, .d t23 a0)], []⟩ (fin10 r)
 unfold F10 at h
 refine qN [] 100 ⟨[(1, .ptr 100 0)], [(100, bx 24 t23 a0)]⟩ aN ?_
 refine Run.sq ?_
 obtain ⟨y1, h_y1, h⟩ := bnd_elim h
 rcases bif_elim h with ⟨hb1, h⟩ | ⟨hb1, h⟩
 ·refine qN [(8, .call (.d t4 y1)), (10, .b true)] 200 ⟨[(1, .ptr 100 0), (38, .d t4 true)], [(100, bx 24 t23 a0)]⟩ (aC (c26 h_y1) (aC hb1 aN)) ?_
  refine Run.cd true (fun hb => ?_) (fun hb => (by cases hb))
  refine qN [] 300 ⟨[(2, .d t2 (1 : Int))], []⟩ aN ?_
  refine Run.rt ?_
  obtain rfl := sI h
  exact qR [(.d t2 (1 : Int))]
 ·obtain ⟨y2, h_y2, h⟩ := bnd_elim h
  rcases bif_elim h with ⟨hb3, h⟩ | ⟨hb3, h⟩
  ·refine qN [(8, .call (.d t4 y1)), (10, .b false), (13, .call (.d t4 y2)), (16, .b true)] 200 ⟨[(1, .ptr 100 0), (38, .d t4 true)], [(100, bx 24 t23 a0)]⟩ (aC (c26 h_y1) (aC hb1 (aC (c27 h_y2) (aC hb3 aN)))) ?_
   refine Run.cd true (fun hb => ?_) (fun hb => (by cases hb))
   refine qN [] 300 ⟨[(2, .d t2 (1 : Int))], []⟩ aN ?_
   refine Run.rt ?_
   obtain rfl := sI h
   exact qR [(.d t2 (1 : Int))]
  ·obtain ⟨y3, h_y3, h⟩ := bnd_elim h
   rcases bif_elim h with ⟨hb5, h⟩ | ⟨hb5, h⟩
   ·refine qN [(8, .call (.d t4 y1)), (10, .b false), (13, .call (.d t4 y2)), (16, .b false), (19, .call (.d t4 y3)), (22, .b true)] 200 ⟨[(1, .ptr 100 0), (38, .d t4 true)], [(100, bx 24 t23 a0)]⟩ (aC (c26 h_y1) (aC hb1 (aC (c27 h_y2) (aC hb3 (aC (c27 h_y3) (aC hb5 aN)))))) ?_
    refine Run.cd true (fun hb => ?_) (fun hb => (by cases hb))
    refine qN [] 300 ⟨[(2, .d t2 (1 : Int))], []⟩ aN ?_
    refine Run.rt ?_
    obtain rfl := sI h
    exact qR [(.d t2 (1 : Int))]
   ·obtain ⟨y4, h_y4, h⟩ := bnd_elim h
    rcases bif_elim h with ⟨hb7, h⟩ | ⟨hb7, h⟩
    ·refine qN [(8, .call (.d t4 y1)), (10, .b false), (13, .call (.d t4 y2)), (16, .b false), (19, .call (.d t4 y3)), (22, .b false), (25, .call (.d t4 y4)), (28, .b true)] 200 ⟨[(1, .ptr 100 0), (38, .d t4 true)], [(100, bx 24 t23 a0)]⟩ (aC (c26 h_y1) (aC hb1 (aC (c27 h_y2) (aC hb3 (aC (c27 h_y3) (aC hb5 (aC (c27 h_y4) (aC hb7 aN)))))))) ?_
     refine Run.cd true (fun hb => ?_) (fun hb => (by cases hb))
     refine qN [] 300 ⟨[(2, .d t2 (1 : Int))], []⟩ aN ?_
     refine Run.rt ?_
     obtain rfl := sI h
     exact qR [(.d t2 (1 : Int))]
    ·refine qN [(8, .call (.d t4 y1)), (10, .b false), (13, .call (.d t4 y2)), (16, .b false), (19, .call (.d t4 y3)), (22, .b false), (25, .call (.d t4 y4)), (28, .b false)] 200 ⟨[(1, .ptr 100 0), (38, .d t4 (decide ((50 : Int) < (ofN (List.length a0.2.2.2.2.2.2.1)))))], [(100, bx 24 t23 a0)]⟩ (aC (c26 h_y1) (aC hb1 (aC (c27 h_y2) (aC hb3 (aC (c27 h_y3) (aC hb5 (aC (c27 h_y4) (aC hb7 aN)))))))) ?_
     refine Run.cd (decide ((50 : Int) < (ofN (List.length a0.2.2.2.2.2.2.1)))) (fun hb => ?_) (fun hb => ?_)
     ·replace h := bif_t h hb
      refine qN [] 300 ⟨[(2, .d t2 (1 : Int))], []⟩ aN ?_
      refine Run.rt ?_
      obtain rfl := sI h
      exact qR [(.d t2 (1 : Int))]
     ·replace h := bif_f h hb
      refine Run.sk ?_
      show Run Pg 73 _ _ _
      refine Run.sq ?_
      refine qN [] 400 ⟨[(1, .ptr 100 0), (40, .d t22 a0.2.2.2.2.2.2.1), (41, .d t2 (ofN (List.length a0.2.2.2.2.2.2.1))), (42, .d t2 (0 : Int))], [(100, bx 24 t23 a0)]⟩ aN ?_
      refine Run.bl 0 ?_
      obtain ⟨o15, h_o15, h⟩ := bnd_elim h
      refine Run.mono (f10_l0_ok a0.2.2.2.2.2.2.1 (ofN (List.length a0.2.2.2.2.2.2.1)) a0 _ (0 : Int) h_o15) ?_
      rcases o15 with o16 | o17
      ·rintro _ _ ⟨rfl, rfl⟩
       show Run Pg 73 _ _ _
       refine qN [] 1000 ⟨[(2, .d t2 (0 : Int))], []⟩ aN ?_
       refine Run.rt ?_
       obtain rfl := sI h
       exact qR [(.d t2 (0 : Int))]
      ·rintro _ s ⟨rfl, hr⟩
       obtain rfl := sI h
       exact hr

/-! ## f41 -/
noncomputable def c_41 : Code := body0 Go.Proofs.Tryz.f41
def fin41 (r : Bool) : Ex → St → Prop := endK X0 [.tmp 4] [4] (.d t4 r)
def F41 (a0 : Int × Int × Int × Int × Int) (a1 : Int × Int) : Option (Bool) :=
 (bif (decide (a0.1 ≤ a1.1)) then
 (bif (decide (a1.1 ≤ a0.2.2.1)) then
 (bif (decide (a0.2.1 ≤ a1.2)) then
 some (decide (a1.2 ≤ a0.2.2.2.1))
 else
 some false)
 else
 some false)
 else
 some false)
theorem c41 {a0 : Int × Int × Int × Int × Int} {a1 : Int × Int} {r : Bool} (h : F41 a0 a1 = some r) : CallPure Pg 41 [(.d t56 a0), (.d t31 a1)] (.d t4 r) := by
 refine qC c_41 31 [.tmp 4] [4] Go.Proofs.Tryz.func41 ?_
 show Run Pg 31 c_41 ⟨[(0, .d t56 a0), (1, .d t31 a1)], []⟩ (fin41 r)
 unfold F41 at h
 refine qN [] 100 ⟨[(2, .ptr 100 0), (3, .ptr 101 0)], [(100, bx 57 t56 a0), (101, bx 32 t31 a1)]⟩ aN ?_
 rcases bif_elim h with ⟨hb0, h⟩ | ⟨hb0, h⟩
 ·rcases bif_elim h with ⟨hb1, h⟩ | ⟨hb1, h⟩
  ·rcases bif_elim h with ⟨hb2, h⟩ | ⟨hb2, h⟩
   ·refine qN [(5, .b true), (12, .b true), (19, .b true)] 200 ⟨[(4, .d t4 (decide (a1.2 ≤ a0.2.2.2.1)))], []⟩ (aC hb0 (aC hb1 (aC hb2 aN))) ?_
    refine Run.rt ?_
    obtain rfl := sI h
    exact qR [(.d t4 (decide (a1.2 ≤ a0.2.2.2.1)))]
   ·refine qN [(5, .b true), (12, .b true), (19, .b false)] 200 ⟨[(4, .d t4 false)], []⟩ (aC hb0 (aC hb1 (aC hb2 aN))) ?_
    refine Run.rt ?_
    obtain rfl := sI h
    exact qR [(.d t4 false)]
  ·refine qN [(5, .b true), (12, .b false)] 200 ⟨[(4, .d t4 false)], []⟩ (aC hb0 (aC hb1 aN)) ?_
   refine Run.rt ?_
   obtain rfl := sI h
   exact qR [(.d t4 false)]
 ·refine qN [(5, .b false)] 200 ⟨[(4, .d t4 false)], []⟩ (aC hb0 aN) ?_
  refine Run.rt ?_
  obtain rfl := sI h
  exact qR [(.d t4 false)]

/-! ## f107 -/
noncomputable def c_107 : Code := body0 Go.Proofs.Tryz.f107
def fin107 (r : (List Int)) : Ex → St → Prop := endK X0 [.tmp 2] [66] (.d t66 r)
def F107 (a0 : Int) : Option ((List Int)) :=
 some ([(wrapI .u32 (Int.tmod a0 (1000000000 : Int))), (wrapI .u32 (Int.tmod (wrapI .u64 (Int.tdiv a0 (1000000000 : Int))) (1000000000 : Int))), (wrapI .u32 (wrapI .u64 (Int.tdiv (wrapI .u64 (Int.tdiv a0 (1000000000 : Int))) (1000000000 : Int))))] : List Int)
theorem c107 {a0 : Int} {r : (List Int)} (h : F107 a0 = some r) : CallPure Pg 107 [(.d t12 a0)] (.d t66 r) := by
 refine qC c_107 15 [.tmp 2] [66] Go.Proofs.Tryz.func107 ?_
 show Run Pg 15 c_107 ⟨[(0, .d t12 a0)], []⟩ (fin107 r)
 unfold F107 at h
 refine qN [] 100 ⟨[(0, .d t12 a0)], []⟩ aN ?_
 refine qN [] 200 ⟨[(2, .d t66 ([(wrapI .u32 (Int.tmod a0 (1000000000 : Int))), (wrapI .u32 (Int.tmod (wrapI .u64 (Int.tdiv a0 (1000000000 : Int))) (1000000000 : Int))), (wrapI .u32 (wrapI .u64 (Int.tdiv (wrapI .u64 (Int.tdiv a0 (1000000000 : Int))) (1000000000 : Int))))] : List Int))], []⟩ (aC (show ((1000000000 : Int) ≠ 0) from (by decide)) (aC (show ((1000000000 : Int) ≠ 0) from (by decide)) (aC (show ((1000000000 : Int) ≠ 0) from (by decide)) (aC (show ((1000000000 : Int) ≠ 0) from (by decide)) (aC (show ((1000000000 : Int) ≠ 0) from (by decide)) aN))))) ?_
 refine Run.rt ?_
 obtain rfl := sI h
 exact qR [(.d t66 ([(wrapI .u32 (Int.tmod a0 (1000000000 : Int))), (wrapI .u32 (Int.tmod (wrapI .u64 (Int.tdiv a0 (1000000000 : Int))) (1000000000 : Int))), (wrapI .u32 (wrapI .u64 (Int.tdiv (wrapI .u64 (Int.tdiv a0 (1000000000 : Int))) (1000000000 : Int))))] : List Int))]

/-! ## f106 -/
noncomputable def c_106 : Code := body0 Go.Proofs.Tryz.f106
def fin106 (r : IntL) : Ex → St → Prop := endK X0 [.cell 4 68] [68] (.d t67 r)
def f106_l0_post (x1 : Bool) (x2 : List Int) (x4 : IntL) : (Int) → Ex → St → Prop
 | o, x, s => x = .out 0 ∧ s = ⟨[(0, .d t4 x1), (1, .d t66 x2), (4, .ptr 100 0), (5, .d t2 o)], [(100, bx 68 t67 x4)]⟩
def f106_l0_b (x2 : List Int) (again : Int → Option (Int)) : Int → Option (Int)
 | x3 =>
 (bif (decide ((0 : Int) < x3)) then
 gd (0 ≤ (wrapI .i64 (x3 - (1 : Int)))) <|
 gd ((wrapI .i64 (x3 - (1 : Int))) < ((List.length x2 : Nat) : Int)) <|
 (bif ((List.getD x2 (toN (wrapI .i64 (x3 - (1 : Int)))) (0 : Int)) == (0 : Int)) then
 again (wrapI .i64 (x3 - (1 : Int)))
 else
 some x3)
 else
 some x3)
def f106_l0 (x2 : List Int) : Nat → Int → Option (Int) := loopF (f106_l0_b x2)
theorem f106_l0_ok (x1 : Bool) (x2 : List Int) (x4 : IntL) (k : Nat) (x3 : Int) {out : (Int)} (h : f106_l0 x2 k x3 = some out) : Run Pg 30 (bk1 (sq1 (sq2 (sq2 c_106)))) ⟨[(0, .d t4 x1), (1, .d t66 x2), (4, .ptr 100 0), (5, .d t2 x3)], [(100, bx 68 t67 x4)]⟩ (f106_l0_post x1 x2 x4 out) := by
 refine Run.loopN (by kernel_rfl) (fun m s => ∃ x3, s = ⟨[(0, .d t4 x1), (1, .d t66 x2), (4, .ptr 100 0), (5, .d t2 x3)], [(100, bx 68 t67 x4)]⟩ ∧ f106_l0 x2 m x3 = some out) ?_ k ⟨x3,  rfl, h⟩
 rintro m s ⟨x3,  rfl, h⟩
 cases m with
 | zero => cases h
 | succ m =>
 replace h : f106_l0_b x2 (f106_l0 x2 m) x3 = some out := h
 unfold f106_l0_b at h
 refine Run.sq ?_
 rcases bif_elim h with ⟨hb0, h⟩ | ⟨hb0, h⟩
 ·obtain ⟨g_1, h⟩ := gd_elim h
  obtain ⟨g_2, h⟩ := gd_elim h
  refine qN [(2, .b true)] 300 ⟨[(0, .d t4 x1), (1, .d t66 x2), (4, .ptr 100 0), (5, .d t2 x3), (17, .d t4 ((List.getD x2 (toN (wrapI .i64 (x3 - (1 : Int)))) (0 : Int)) == (0 : Int)))], [(100, bx 68 t67 x4)]⟩ (aC hb0 (aC g_1 (aC g_2 aN))) ?_
  refine Run.cd ((List.getD x2 (toN (wrapI .i64 (x3 - (1 : Int)))) (0 : Int)) == (0 : Int)) (fun hb => ?_) (fun hb => ?_)
  ·replace h := bif_t h hb
   refine Run.sk ?_
   show Run Pg 30 _ _ _
   refine Run.bl 1 ?_
   refine qE [] 400 ⟨[(0, .d t4 x1), (1, .d t66 x2), (4, .ptr 100 0), (5, .d t2 (wrapI .i64 (x3 - (1 : Int))))], [(100, bx 68 t67 x4)]⟩ aN ?_
   exact ⟨m, Nat.lt_succ_self m, _, rfl, h⟩
  ·replace h := bif_f h hb
   refine qK ⟨[(0, .d t4 x1), (1, .d t66 x2), (4, .ptr 100 0), (5, .d t2 x3)], [(100, bx 68 t67 x4)]⟩ ?_
   refine Run.ex 0 ?_
   obtain rfl := sI h
   exact ⟨rfl, by kernel_rfl⟩
 ·refine qN [(2, .b false)] 300 ⟨[(0, .d t4 x1), (1, .d t66 x2), (4, .ptr 100 0), (5, .d t2 x3), (17, .d t4 false)], [(100, bx 68 t67 x4)]⟩ (aC hb0 aN) ?_
  refine Run.cd false (fun hb => (by cases hb)) (fun hb => ?_)
  refine qK ⟨[(0, .d t4 x1), (1, .d t66 x2), (4, .ptr 100 0), (5, .d t2 x3)], [(100, bx 68 t67 x4)]⟩ ?_
  refine Run.ex 0 ?_
  obtain rfl := sI h
  exact ⟨rfl, by kernel_rfl⟩
def F106 (a0 : Bool) (a1 : List Int) : Option (IntL) :=
 ((f106_l0 a1 (2 + List.length a1) (ofN (List.length a1))).bind fun o5 =>
 (bif a0 then
 gd (0 ≤ o5) <|
 gd (o5 ≤ o5) <|
 gd (o5 ≤ ((List.length a1 : Nat) : Int)) <|
 some ((decide ((0 : Int) < o5)), (List.take (Int.toNat o5) a1))
 else
 gd (0 ≤ o5) <|
 gd (o5 ≤ o5) <|
 gd (o5 ≤ ((List.length a1 : Nat) : Int)) <|
 some (false, (List.take (Int.toNat o5) a1))))
theorem c106 {a0 : Bool} {a1 : List Int} {r : IntL} (h : F106 a0 a1 = some r) : CallPure Pg 106 [(.d t4 a0), (.d t66 a1)] (.d t67 r) := by
 refine qC c_106 30 [.cell 4 68] [68] Go.Proofs.Tryz.func106 ?_
 show Run Pg 30 c_106 ⟨[(0, .d t4 a0), (1, .d t66 a1)], []⟩ (fin106 r)
 unfold F106 at h
 refine qN [] 100 ⟨[(0, .d t4 a0), (1, .d t66 a1), (4, .ptr 100 0)], [(100, bx 68 t67 (false, ([] : List Int)))]⟩ aN ?_
 refine qN [] 200 ⟨[(0, .d t4 a0), (1, .d t66 a1), (4, .ptr 100 0), (5, .d t2 (ofN (List.length a1)))], [(100, bx 68 t67 (false, ([] : List Int)))]⟩ aN ?_
 refine Run.sq ?_
 refine Run.bl 0 ?_
 obtain ⟨o5, h_o5, h⟩ := bnd_elim h
 refine Run.mono (f106_l0_ok a0 a1 (false, ([] : List Int)) _ (ofN (List.length a1)) h_o5) ?_
 rintro _ _ ⟨rfl, rfl⟩
 show Run Pg 30 _ _ _
 rcases bif_elim h with ⟨hb0, h⟩ | ⟨hb0, h⟩
 ·obtain ⟨g_1, h⟩ := gd_elim h
  obtain ⟨g_2, h⟩ := gd_elim h
  obtain ⟨g_3, h⟩ := gd_elim h
  refine qN [(1, .b true)] 500 ⟨[(4, .ptr 100 0)], [(100, bx 68 t67 ((decide ((0 : Int) < o5)), (List.take (Int.toNat o5) a1)))]⟩ (aC hb0 (aC g_1 (aC g_2 (aC g_3 aN)))) ?_
  refine Run.rt ?_
  obtain rfl := sI h
  exact qR [(.d t67 ((decide ((0 : Int) < o5)), (List.take (Int.toNat o5) a1)))]
 ·obtain ⟨g_1, h⟩ := gd_elim h
  obtain ⟨g_2, h⟩ := gd_elim h
  obtain ⟨g_3, h⟩ := gd_elim h
  refine qN [(1, .b false)] 500 ⟨[(4, .ptr 100 0)], [(100, bx 68 t67 (false, (List.take (Int.toNat o5) a1)))]⟩ (aC hb0 (aC g_1 (aC g_2 (aC g_3 aN)))) ?_
  refine Run.rt ?_
  obtain rfl := sI h
  exact qR [(.d t67 (false, (List.take (Int.toNat o5) a1)))]

/-! ## f66 -/
noncomputable def c_66 : Code := body0 Go.Proofs.Tryz.f66
def fin66 (r : IntL) : Ex → St → Prop := endK X0 [.cell 2 68] [68] (.d t67 r)
def f66_c0_post (x1 : Int) (x2 : Int) (x3 : Bool) (x4 : IntL) : (Int) → Ex → St → Prop
 | o, x, s => x = .nrm ∧ s = ⟨[(0, .d t2 x1), (2, .ptr 100 0), (3, .d t12 o)], [(100, bx 68 t67 x4)]⟩
def f66_c0 (x2 : Int) (x3 : Bool) : Option (Int) :=
 (bif x3 then
 some (wrapI .u64 (0 - x2))
 else
 some x2)
theorem f66_c0_ok (x1 : Int) (x2 : Int) (x3 : Bool) (x4 : IntL) {out : (Int)} (h : f66_c0 x2 x3 = some out) : Run Pg 15 (sq2 (sq1 (sq2 (sq2 c_66)))) ⟨[(0, .d t2 x1), (2, .ptr 100 0), (3, .d t12 x2), (7, .d t4 x3)], [(100, bx 68 t67 x4)]⟩ (f66_c0_post x1 x2 x3 x4 out) := by
 unfold f66_c0 at h
 refine Run.cd x3 (fun hb => ?_) (fun hb => ?_)
 ·replace h := bif_t h hb
  refine qE [] 400 ⟨[(0, .d t2 x1), (2, .ptr 100 0), (3, .d t12 (wrapI .u64 (0 - x2)))], [(100, bx 68 t67 x4)]⟩ aN ?_
  obtain rfl := sI h
  exact ⟨rfl, by kernel_rfl⟩
 ·replace h := bif_f h hb
  refine qK ⟨[(0, .d t2 x1), (2, .ptr 100 0), (3, .d t12 x2)], [(100, bx 68 t67 x4)]⟩ ?_
  refine Run.sk ?_
  obtain rfl := sI h
  exact ⟨rfl, by kernel_rfl⟩
def F66 (a0 : Int) : Option (IntL) :=
 ((f66_c0 (wrapI .u64 a0) (decide (a0 < (0 : Int)))).bind fun o5 =>
 (F107 o5).bind fun y6 =>
 (F106 (decide (a0 < (0 : Int))) y6).bind fun y7 =>
 some y7)
theorem c66 {a0 : Int} {r : IntL} (h : F66 a0 = some r) : CallPure Pg 66 [(.d t2 a0)] (.d t67 r) := by
 refine qC c_66 15 [.cell 2 68] [68] Go.Proofs.Tryz.func66 ?_
 show Run Pg 15 c_66 ⟨[(0, .d t2 a0)], []⟩ (fin66 r)
 unfold F66 at h
 refine qN [] 100 ⟨[(0, .d t2 a0), (2, .ptr 100 0)], [(100, bx 68 t67 (false, ([] : List Int)))]⟩ aN ?_
 refine qN [] 200 ⟨[(0, .d t2 a0), (2, .ptr 100 0), (3, .d t12 (wrapI .u64 a0))], [(100, bx 68 t67 (false, ([] : List Int)))]⟩ aN ?_
 refine Run.sq ?_
 refine qN [] 300 ⟨[(0, .d t2 a0), (2, .ptr 100 0), (3, .d t12 (wrapI .u64 a0)), (7, .d t4 (decide (a0 < (0 : Int))))], [(100, bx 68 t67 (false, ([] : List Int)))]⟩ aN ?_
 obtain ⟨o5, h_o5, h⟩ := bnd_elim h
 refine Run.mono (f66_c0_ok a0 (wrapI .u64 a0) (decide (a0 < (0 : Int))) (false, ([] : List Int)) h_o5) ?_
 rintro _ _ ⟨rfl, rfl⟩
 show Run Pg 15 _ _ _
 obtain ⟨y6, h_y6, h⟩ := bnd_elim h
 obtain ⟨y7, h_y7, h⟩ := bnd_elim h
 refine qN [(3, .call (.d t66 y6)), (4, .call (.d t67 y7))] 500 ⟨[(2, .ptr 100 0)], [(100, bx 68 t67 y7)]⟩ (aC (c107 h_y6) (aC (c106 h_y7) aN)) ?_
 refine Run.rt ?_
 obtain rfl := sI h
 exact qR [(.d t67 y7)]

/-! ## f105 -/
noncomputable def c_105 : Code := body0 Go.Proofs.Tryz.f105
def fin105 (r : IntL) : Ex → St → Prop := endK X0 [.cell 0 68] [68] (.d t67 r)
def F105  : Option (IntL) :=
 (F66 (1 : Int)).bind fun y1 =>
 some y1
theorem c105  {r : IntL} (h : F105  = some r) : CallPure Pg 105 [] (.d t67 r) := by
 refine qC c_105 2 [.cell 0 68] [68] Go.Proofs.Tryz.func105 ?_
 show Run Pg 2 c_105 ⟨[], []⟩ (fin105 r)
 unfold F105 at h
 refine qN [] 100 ⟨[(0, .ptr 100 0)], [(100, bx 68 t67 (false, ([] : List Int)))]⟩ aN ?_
 obtain ⟨y1, h_y1, h⟩ := bnd_elim h
 refine qN [(0, .call (.d t67 y1))] 200 ⟨[(0, .ptr 100 0)], [(100, bx 68 t67 y1)]⟩ (aC (c66 h_y1) aN) ?_
 refine Run.rt ?_
 obtain rfl := sI h
 exact qR [(.d t67 y1)]

/-! ## f65 -/
noncomputable def c_65 : Code := body0 Go.Proofs.Tryz.f65
def fin65 (r : RatL) : Ex → St → Prop := endK X0 [.cell 2 70] [70] (.d t69 r)
def F65 (a0 : IntL) : Option RatL :=
 (F105 ).bind fun y1 =>
 some (a0, y1)
theorem c65 {a0 : IntL} {r : RatL} (h : F65 a0 = some r) : CallPure Pg 65 [(.d t67 a0)] (.d t69 r) := by
 refine qC c_65 6 [.cell 2 70] [70] Go.Proofs.Tryz.func65 ?_
 show Run Pg 6 c_65 ⟨[(0, .d t67 a0)], []⟩ (fin65 r)
 unfold F65 at h
 refine qN [] 100 ⟨[(1, .ptr 100 0), (2, .ptr 101 0)], [(100, bx 68 t67 a0), (101, bx 70 t69 ((false, ([] : List Int)), (false, ([] : List Int))))]⟩ aN ?_
 obtain ⟨y1, h_y1, h⟩ := bnd_elim h
 refine qN [(1, .call (.d t67 y1))] 200 ⟨[(2, .ptr 101 0)], [(101, bx 70 t69 (a0, y1))]⟩ (aC (c105 h_y1) aN) ?_
 refine Run.rt ?_
 obtain rfl := sI h
 exact qR [(.d t69 (a0, y1))]

/-! ## f42 -/
noncomputable def c_42 : Code := body0 Go.Proofs.Tryz.f42
def fin42 (r : RatL) : Ex → St → Prop := endK X0 [.cell 2 70] [70] (.d t69 r)
def F42 (a0 : Int) : Option RatL :=
 (F66 a0).bind fun y1 =>
 (F65 y1).bind fun y2 =>
 some y2
theorem c42 {a0 : Int} {r : RatL} (h : F42 a0 = some r) : CallPure Pg 42 [(.d t2 a0)] (.d t69 r) := by
 refine qC c_42 6 [.cell 2 70] [70] Go.Proofs.Tryz.func42 ?_
 show Run Pg 6 c_42 ⟨[(0, .d t2 a0)], []⟩ (fin42 r)
 unfold F42 at h
 refine qN [] 100 ⟨[(0, .d t2 a0), (2, .ptr 100 0)], [(100, bx 70 t69 ((false, ([] : List Int)), (false, ([] : List Int))))]⟩ aN ?_
 obtain ⟨y1, h_y1, h⟩ := bnd_elim h
 obtain ⟨y2, h_y2, h⟩ := bnd_elim h
 refine qN [(1, .call (.d t67 y1)), (2, .call (.d t69 y2))] 200 ⟨[(2, .ptr 100 0)], [(100, bx 70 t69 y2)]⟩ (aC (c66 h_y1) (aC (c65 h_y2) aN)) ?_
 refine Run.rt ?_
 obtain rfl := sI h
 exact qR [(.d t69 y2)]

/-! ## f112 -/
noncomputable def c_112 : Code := body0 Go.Proofs.Tryz.f112
def fin112 (r : (List Int)) : Ex → St → Prop := endK X0 [.tmp 4] [66] (.d t66 r)
def f112_l1_post (x16 : List Int) (x17 : Int) (x18 : Int) (x20 : List Int) (x21 : Int) (x22 : Int) : (Int × (List Int)) → Ex → St → Prop
 | o, x, s => x = .out 2 ∧ s = ⟨[(1, .d t66 x16), (5, .vec 205 t158), (6, .d t2 x17), (8, .d t12 o.1), (18, .d t66 x20), (19, .d t2 x21), (20, .d t2 x17)], [(205, .vec 158 t158 o.2)]⟩
def f112_l1_b (x16 : List Int) (x17 : Int) (x18 : Int) (x22 : Int) (again : Int × Int × (List Int) → Option (Int × (List Int))) : Int × Int × (List Int) → Option (Int × (List Int))
 | (x19, x23, x24) =>
 (bif (decide (x23 < x22)) then
 gd (0 ≤ x23) <|
 gd (x23 < ((List.length x16 : Nat) : Int)) <|
 gd (0 ≤ (wrapI .i64 (x17 + x23))) <|
 gd ((wrapI .i64 (x17 + x23)) < ((List.length x24 : Nat) : Int)) <|
 gd ((toN (wrapI .i64 (x17 + x23))) < List.length x24) <|
 gd (0 ≤ (wrapI .i64 (x17 + x23))) <|
 gd ((wrapI .i64 (x17 + x23)) < ((List.length x24 : Nat) : Int)) <|
 gd ((toN (wrapI .i64 (x17 + x23))) < List.length x24) <|
 again ((wrapI .u64 (Int.tdiv (wrapI .u64 ((wrapI .u64 ((wrapI .u64 (List.getD x24 (toN (wrapI .i64 (x17 + x23))) (0 : Int))) + (wrapI .u64 ((wrapI .u64 x18) * (wrapI .u64 (List.getD x16 (toN x23) (0 : Int))))))) + x19)) (1000000000 : Int))), (wrapI .i64 (x23 + (1 : Int))), (List.set x24 (toN (wrapI .i64 (x17 + x23))) (wrapI .u32 (Int.tmod (wrapI .u64 ((wrapI .u64 ((wrapI .u64 (List.getD x24 (toN (wrapI .i64 (x17 + x23))) (0 : Int))) + (wrapI .u64 ((wrapI .u64 x18) * (wrapI .u64 (List.getD x16 (toN x23) (0 : Int))))))) + x19)) (1000000000 : Int)))))
 else
 some (x19, x24))
def f112_l1 (x16 : List Int) (x17 : Int) (x18 : Int) (x22 : Int) : Nat → Int × Int × (List Int) → Option (Int × (List Int)) := loopF (f112_l1_b x16 x17 x18 x22)
theorem f112_l1_ok (x16 : List Int) (x17 : Int) (x18 : Int) (x20 : List Int) (x21 : Int) (x22 : Int) (k : Nat) (x19 : Int) (x23 : Int) (x24 : List Int) {out : (Int × (List Int))} (h : f112_l1 x16 x17 x18 x22 k (x19, x23, x24) = some out) : Run Pg 68 (bk1 (sq2 (sq1 (sq2 (sq2 (bk1 (sq1 (sq2 (sq2 (lp1 (bk1 (sq2 (sq1 (sq2 (sq2 c_112))))))))))))))) ⟨[(1, .d t66 x16), (5, .vec 205 t158), (6, .d t2 x17), (7, .d t158 x18), (8, .d t12 x19), (18, .d t66 x20), (19, .d t2 x21), (20, .d t2 x17), (25, .d t66 x16), (26, .d t2 x22), (27, .d t2 x23)], [(205, .vec 158 t158 x24)]⟩ (f112_l1_post x16 x17 x18 x20 x21 x22 out) := by
 refine Run.loopN (by kernel_rfl) (fun m s => ∃ x19 x23 x24, s = ⟨[(1, .d t66 x16), (5, .vec 205 t158), (6, .d t2 x17), (7, .d t158 x18), (8, .d t12 x19), (18, .d t66 x20), (19, .d t2 x21), (20, .d t2 x17), (25, .d t66 x16), (26, .d t2 x22), (27, .d t2 x23)], [(205, .vec 158 t158 x24)]⟩ ∧ f112_l1 x16 x17 x18 x22 m (x19, x23, x24) = some out) ?_ k ⟨x19, x23, x24,  rfl, h⟩
 rintro m s ⟨x19, x23, x24,  rfl, h⟩
 cases m with
 | zero => cases h
 | succ m =>
 replace h : f112_l1_b x16 x17 x18 x22 (f112_l1 x16 x17 x18 x22 m) (x19, x23, x24) = some out := h
 unfold f112_l1_b at h
 refine qN [] 800 ⟨[(1, .d t66 x16), (5, .vec 205 t158), (6, .d t2 x17), (7, .d t158 x18), (8, .d t12 x19), (18, .d t66 x20), (19, .d t2 x21), (20, .d t2 x17), (25, .d t66 x16), (26, .d t2 x22), (27, .d t2 x23), (28, .d t4 (decide (x23 < x22)))], [(205, .vec 158 t158 x24)]⟩ aN ?_
 refine Run.sq ?_
 refine Run.cd (decide (x23 < x22)) (fun hb => ?_) (fun hb => ?_)
 ·replace h := bif_t h hb
  refine Run.sk ?_
  show Run Pg 68 _ _ _
  refine Run.sq ?_
  refine Run.bl 3 ?_
  obtain ⟨g_0, h⟩ := gd_elim h
  obtain ⟨g_1, h⟩ := gd_elim h
  refine qN [] 900 ⟨[(1, .d t66 x16), (5, .vec 205 t158), (6, .d t2 x17), (7, .d t158 x18), (8, .d t12 x19), (9, .d t2 x23), (10, .d t158 (List.getD x16 (toN x23) (0 : Int))), (18, .d t66 x20), (19, .d t2 x21), (20, .d t2 x17), (25, .d t66 x16), (26, .d t2 x22), (27, .d t2 x23)], [(205, .vec 158 t158 x24)]⟩ (aC g_0 (aC g_1 aN)) ?_
  obtain ⟨g_0, h⟩ := gd_elim h
  obtain ⟨g_1, h⟩ := gd_elim h
  obtain ⟨g_2, h⟩ := gd_elim h
  refine qN [] 1000 ⟨[(1, .d t66 x16), (5, .vec 205 t158), (6, .d t2 x17), (7, .d t158 x18), (9, .d t2 x23), (11, .d t12 (wrapI .u64 ((wrapI .u64 ((wrapI .u64 (List.getD x24 (toN (wrapI .i64 (x17 + x23))) (0 : Int))) + (wrapI .u64 ((wrapI .u64 x18) * (wrapI .u64 (List.getD x16 (toN x23) (0 : Int))))))) + x19))), (18, .d t66 x20), (19, .d t2 x21), (20, .d t2 x17), (25, .d t66 x16), (26, .d t2 x22), (27, .d t2 x23)], [(205, .vec 158 t158 x24)]⟩ (aC g_0 (aC g_1 (aC g_2 aN))) ?_
  obtain ⟨g_2, h⟩ := gd_elim h
  obtain ⟨g_3, h⟩ := gd_elim h
  obtain ⟨g_4, h⟩ := gd_elim h
  refine qE [] 1100 ⟨[(1, .d t66 x16), (5, .vec 205 t158), (6, .d t2 x17), (7, .d t158 x18), (8, .d t12 (wrapI .u64 (Int.tdiv (wrapI .u64 ((wrapI .u64 ((wrapI .u64 (List.getD x24 (toN (wrapI .i64 (x17 + x23))) (0 : Int))) + (wrapI .u64 ((wrapI .u64 x18) * (wrapI .u64 (List.getD x16 (toN x23) (0 : Int))))))) + x19)) (1000000000 : Int)))), (18, .d t66 x20), (19, .d t2 x21), (20, .d t2 x17), (25, .d t66 x16), (26, .d t2 x22), (27, .d t2 x23)], [(205, .vec 158 t158 (List.set x24 (toN (wrapI .i64 (x17 + x23))) (wrapI .u32 (Int.tmod (wrapI .u64 ((wrapI .u64 ((wrapI .u64 (List.getD x24 (toN (wrapI .i64 (x17 + x23))) (0 : Int))) + (wrapI .u64 ((wrapI .u64 x18) * (wrapI .u64 (List.getD x16 (toN x23) (0 : Int))))))) + x19)) (1000000000 : Int)))))]⟩ (aC (show ((1000000000 : Int) ≠ 0) from (by decide)) (aC (show ((1000000000 : Int) ≠ 0) from (by decide)) (aC g_2 (aC g_3 (aC g_4 aN))))) ?_
  show Run Pg 68 _ _ _
  refine qE [] 1200 ⟨[(1, .d t66 x16), (5, .vec 205 t158), (6, .d t2 x17), (7, .d t158 x18), (8, .d t12 (wrapI .u64 (Int.tdiv (wrapI .u64 ((wrapI .u64 ((wrapI .u64 (List.getD x24 (toN (wrapI .i64 (x17 + x23))) (0 : Int))) + (wrapI .u64 ((wrapI .u64 x18) * (wrapI .u64 (List.getD x16 (toN x23) (0 : Int))))))) + x19)) (1000000000 : Int)))), (18, .d t66 x20), (19, .d t2 x21), (20, .d t2 x17), (25, .d t66 x16), (26, .d t2 x22), (27, .d t2 (wrapI .i64 (x23 + (1 : Int))))], [(205, .vec 158 t158 (List.set x24 (toN (wrapI .i64 (x17 + x23))) (wrapI .u32 (Int.tmod (wrapI .u64 ((wrapI .u64 ((wrapI .u64 (List.getD x24 (toN (wrapI .i64 (x17 + x23))) (0 : Int))) + (wrapI .u64 ((wrapI .u64 x18) * (wrapI .u64 (List.getD x16 (toN x23) (0 : Int))))))) + x19)) (1000000000 : Int)))))]⟩ aN ?_
  exact ⟨m, Nat.lt_succ_self m, _, _, _, rfl, h⟩
 ·replace h := bif_f h hb
  refine qK ⟨[(1, .d t66 x16), (5, .vec 205 t158), (6, .d t2 x17), (8, .d t12 x19), (18, .d t66 x20), (19, .d t2 x21), (20, .d t2 x17)], [(205, .vec 158 t158 x24)]⟩ ?_
  refine Run.ex 2 ?_
  obtain rfl := sI h
  exact ⟨rfl, by kernel_rfl⟩
def f112_l0_post (x1 : List Int) (x2 : List Int) (x3 : Int) : ((List Int)) → Ex → St → Prop
 | o, x, s => x = .out 0 ∧ s = ⟨[(5, .vec 205 t158)], [(205, .vec 158 t158 o)]⟩
def f112_l0_b (x1 : List Int) (x2 : List Int) (x3 : Int) (again : Int × (List Int) → Option ((List Int))) : Int × (List Int) → Option ((List Int))
 | (x4, x5) =>
 (bif (decide (x4 < x3)) then
 gd (0 ≤ x4) <|
 gd (x4 < ((List.length x2 : Nat) : Int)) <|
 ((f112_l1 x1 x4 (List.getD x2 (toN x4) (0 : Int)) (ofN (List.length x1)) (2 + List.length x1 + List.length x2 + List.length x5) ((0 : Int), (0 : Int), x5)).bind fun o25 =>
 gd (0 ≤ (wrapI .i64 (x4 + (ofN (List.length x1))))) <|
 gd ((wrapI .i64 (x4 + (ofN (List.length x1)))) < ((List.length o25.2 : Nat) : Int)) <|
 gd ((toN (wrapI .i64 (x4 + (ofN (List.length x1))))) < List.length o25.2) <|
 again ((wrapI .i64 (x4 + (1 : Int))), (List.set o25.2 (toN (wrapI .i64 (x4 + (ofN (List.length x1))))) (wrapI .u32 o25.1))))
 else
 some x5)
def f112_l0 (x1 : List Int) (x2 : List Int) (x3 : Int) : Nat → Int × (List Int) → Option ((List Int)) := loopF (f112_l0_b x1 x2 x3)
theorem f112_l0_ok (x1 : List Int) (x2 : List Int) (x3 : Int) (k : Nat) (x4 : Int) (x5 : List Int) {out : ((List Int))} (h : f112_l0 x1 x2 x3 k (x4, x5) = some out) : Run Pg 68 (bk1 (sq2 (sq1 (sq2 (sq2 c_112))))) ⟨[(1, .d t66 x1), (5, .vec 205 t158), (18, .d t66 x2), (19, .d t2 x3), (20, .d t2 x4)], [(205, .vec 158 t158 x5)]⟩ (f112_l0_post x1 x2 x3 out) := by
 refine Run.loopN (by kernel_rfl) (fun m s => ∃ x4 x5, s = ⟨[(1, .d t66 x1), (5, .vec 205 t158), (18, .d t66 x2), (19, .d t2 x3), (20, .d t2 x4)], [(205, .vec 158 t158 x5)]⟩ ∧ f112_l0 x1 x2 x3 m (x4, x5) = some out) ?_ k ⟨x4, x5,  rfl, h⟩
 rintro m s ⟨x4, x5,  rfl, h⟩
 cases m with
 | zero => cases h
 | succ m =>
 replace h : f112_l0_b x1 x2 x3 (f112_l0 x1 x2 x3 m) (x4, x5) = some out := h
 unfold f112_l0_b at h
 refine qN [] 400 ⟨[(1, .d t66 x1), (5, .vec 205 t158), (18, .d t66 x2), (19, .d t2 x3), (20, .d t2 x4), (21, .d t4 (decide (x4 < x3)))], [(205, .vec 158 t158 x5)]⟩ aN ?_
 refine Run.sq ?_
 refine Run.cd (decide (x4 < x3)) (fun hb => ?_) (fun hb => ?_)
 ·replace h := bif_t h hb
  refine Run.sk ?_
  show Run Pg 68 _ _ _
  refine Run.sq ?_
  refine Run.bl 1 ?_
  obtain ⟨g_0, h⟩ := gd_elim h
  obtain ⟨g_1, h⟩ := gd_elim h
  refine qN [] 500 ⟨[(1, .d t66 x1), (5, .vec 205 t158), (6, .d t2 x4), (7, .d t158 (List.getD x2 (toN x4) (0 : Int))), (18, .d t66 x2), (19, .d t2 x3), (20, .d t2 x4)], [(205, .vec 158 t158 x5)]⟩ (aC g_0 (aC g_1 aN)) ?_
  refine qN [] 600 ⟨[(1, .d t66 x1), (5, .vec 205 t158), (6, .d t2 x4), (7, .d t158 (List.getD x2 (toN x4) (0 : Int))), (8, .d t12 (0 : Int)), (18, .d t66 x2), (19, .d t2 x3), (20, .d t2 x4)], [(205, .vec 158 t158 x5)]⟩ aN ?_
  refine Run.sq ?_
  refine qN [] 700 ⟨[(1, .d t66 x1), (5, .vec 205 t158), (6, .d t2 x4), (7, .d t158 (List.getD x2 (toN x4) (0 : Int))), (8, .d t12 (0 : Int)), (18, .d t66 x2), (19, .d t2 x3), (20, .d t2 x4), (25, .d t66 x1), (26, .d t2 (ofN (List.length x1))), (27, .d t2 (0 : Int))], [(205, .vec 158 t158 x5)]⟩ aN ?_
  refine Run.bl 2 ?_
  obtain ⟨o25, h_o25, h⟩ := bnd_elim h
  refine Run.mono (f112_l1_ok x1 x4 (List.getD x2 (toN x4) (0 : Int)) x2 x3 (ofN (List.length x1)) _ (0 : Int) (0 : Int) x5 h_o25) ?_
  rintro _ _ ⟨rfl, rfl⟩
  show Run Pg 68 _ _ _
  obtain ⟨g_0, h⟩ := gd_elim h
  obtain ⟨g_1, h⟩ := gd_elim h
  obtain ⟨g_2, h⟩ := gd_elim h
  refine qE [] 1300 ⟨[(1, .d t66 x1), (5, .vec 205 t158), (18, .d t66 x2), (19, .d t2 x3), (20, .d t2 x4)], [(205, .vec 158 t158 (List.set o25.2 (toN (wrapI .i64 (x4 + (ofN (List.length x1))))) (wrapI .u32 o25.1)))]⟩ (aC g_0 (aC g_1 (aC g_2 aN))) ?_
  show Run Pg 68 _ _ _
  refine qE [] 1400 ⟨[(1, .d t66 x1), (5, .vec 205 t158), (18, .d t66 x2), (19, .d t2 x3), (20, .d t2 (wrapI .i64 (x4 + (1 : Int))))], [(205, .vec 158 t158 (List.set o25.2 (toN (wrapI .i64 (x4 + (ofN (List.length x1))))) (wrapI .u32 o25.1)))]⟩ aN ?_
  exact ⟨m, Nat.lt_succ_self m, _, _, rfl, h⟩
 ·replace h := bif_f h hb
  refine qK ⟨[(5, .vec 205 t158)], [(205, .vec 158 t158 x5)]⟩ ?_
  refine Run.ex 0 ?_
  obtain rfl := sI h
  exact ⟨rfl, by kernel_rfl⟩
def F112 (a0 : List Int) (a1 : List Int) : Option ((List Int)) :=
 gd (0 ≤ (wrapI .i64 ((ofN (List.length a0)) + (ofN (List.length a1))))) <|
 gd ((wrapI .i64 ((ofN (List.length a0)) + (ofN (List.length a1)))) ≤ (wrapI .i64 ((ofN (List.length a0)) + (ofN (List.length a1))))) <|
 gd ((wrapI .i64 ((ofN (List.length a0)) + (ofN (List.length a1)))) ≤ 1073741824) <|
 ((f112_l0 a1 a0 (ofN (List.length a0)) (2 + List.length a1 + List.length a0 + List.length (List.replicate (toN (wrapI .i64 ((ofN (List.length a0)) + (ofN (List.length a1))))) (0 : Int))) ((0 : Int), (List.replicate (toN (wrapI .i64 ((ofN (List.length a0)) + (ofN (List.length a1))))) (0 : Int)))).bind fun o26 =>
 some o26)
theorem c112 {a0 : List Int} {a1 : List Int} {r : (List Int)} (h : F112 a0 a1 = some r) : CallPure Pg 112 [(.d t66 a0), (.d t66 a1)] (.d t66 r) := by
 refine qC c_112 68 [.tmp 4] [66] Go.Proofs.Tryz.func112 ?_
 show Run Pg 68 c_112 ⟨[(0, .d t66 a0), (1, .d t66 a1)], []⟩ (fin112 r)
 unfold F112 at h
 refine qN [] 100 ⟨[(0, .d t66 a0), (1, .d t66 a1)], []⟩ aN ?_
 obtain ⟨g_0, h⟩ := gd_elim h
 obtain ⟨g_1, h⟩ := gd_elim h
 obtain ⟨g_2, h⟩ := gd_elim h
 refine qN [] 200 ⟨[(0, .d t66 a0), (1, .d t66 a1), (5, .vec 205 t158)], [(205, .vec 158 t158 (List.replicate (toN (wrapI .i64 ((ofN (List.length a0)) + (ofN (List.length a1))))) (0 : Int)))]⟩ (aC g_0 (aC g_1 (aC g_2 aN))) ?_
 refine Run.sq ?_
 refine qN [] 300 ⟨[(1, .d t66 a1), (5, .vec 205 t158), (18, .d t66 a0), (19, .d t2 (ofN (List.length a0))), (20, .d t2 (0 : Int))], [(205, .vec 158 t158 (List.replicate (toN (wrapI .i64 ((ofN (List.length a0)) + (ofN (List.length a1))))) (0 : Int)))]⟩ aN ?_
 refine Run.bl 0 ?_
 obtain ⟨o26, h_o26, h⟩ := bnd_elim h
 refine Run.mono (f112_l0_ok a1 a0 (ofN (List.length a0)) _ (0 : Int) (List.replicate (toN (wrapI .i64 ((ofN (List.length a0)) + (ofN (List.length a1))))) (0 : Int)) h_o26) ?_
 rintro _ _ ⟨rfl, rfl⟩
 show Run Pg 68 _ _ _
 refine qN [] 1500 ⟨[(4, .vec 205 t158)], [(205, .vec 158 t158 o26)]⟩ aN ?_
 refine Run.freeze (s' := ⟨[(4, .d t66 o26)], []⟩) 205 (by kernel_rfl) ?_
 refine Run.rt ?_
 obtain rfl := sI h
 exact qR [(.d t66 o26)]

/-! ## f68 -/
noncomputable def c_68 : Code := body0 Go.Proofs.Tryz.f68
def fin68 (r : IntL) : Ex → St → Prop := endK X0 [.cell 4 68] [68] (.d t67 r)
def F68 (a0 : IntL) (a1 : IntL) : Option (IntL) :=
 (F112 a0.2 a1.2).bind fun y1 =>
 (F106 (!(a0.1 == a1.1)) y1).bind fun y2 =>
 some y2
theorem c68 {a0 : IntL} {a1 : IntL} {r : IntL} (h : F68 a0 a1 = some r) : CallPure Pg 68 [(.d t67 a0), (.d t67 a1)] (.d t67 r) := by
 refine qC c_68 16 [.cell 4 68] [68] Go.Proofs.Tryz.func68 ?_
 show Run Pg 16 c_68 ⟨[(0, .d t67 a0), (1, .d t67 a1)], []⟩ (fin68 r)
 unfold F68 at h
 refine qN [] 100 ⟨[(2, .ptr 100 0), (3, .ptr 101 0), (4, .ptr 102 0)], [(100, bx 68 t67 a0), (101, bx 68 t67 a1), (102, bx 68 t67 (false, ([] : List Int)))]⟩ aN ?_
 obtain ⟨y1, h_y1, h⟩ := bnd_elim h
 obtain ⟨y2, h_y2, h⟩ := bnd_elim h
 refine qN [(9, .call (.d t66 y1)), (10, .call (.d t67 y2))] 200 ⟨[(4, .ptr 102 0)], [(102, bx 68 t67 y2)]⟩ (aC (c112 h_y1) (aC (c106 h_y2) aN)) ?_
 refine Run.rt ?_
 obtain rfl := sI h
 exact qR [(.d t67 y2)]

/-! ## f108 -/
noncomputable def c_108 : Code := body0 Go.Proofs.Tryz.f108
def fin108 (r : Int) : Ex → St → Prop := endK X0 [.tmp 2] [3] (.d t2 r)
def F108 (a0 : IntL) : Option (Int) :=
 (bif a0.1 then
 some (-1 : Int)
 else
 (bif (decide ((0 : Int) < (ofN (List.length a0.2)))) then
 some (1 : Int)
 else
 some (0 : Int)))
theorem c108 {a0 : IntL} {r : Int} (h : F108 a0 = some r) : CallPure Pg 108 [(.d t67 a0)] (.d t2 r) := by
 refine qC c_108 11 [.tmp 2] [3] Go.Proofs.Tryz.func108 ?_
 show Run Pg 11 c_108 ⟨[(0, .d t67 a0)], []⟩ (fin108 r)
 unfold F108 at h
 refine qN [] 100 ⟨[(1, .ptr 100 0)], [(100, bx 68 t67 a0)]⟩ aN ?_
 refine Run.sq ?_
 refine Run.bl 0 ?_
 refine qN [] 200 ⟨[(1, .ptr 100 0), (3, .d t4 a0.1)], [(100, bx 68 t67 a0)]⟩ aN ?_
 refine Run.cd a0.1 (fun hb => ?_) (fun hb => ?_)
 ·replace h := bif_t h hb
  refine qN [] 300 ⟨[(2, .d t2 (-1 : Int))], []⟩ aN ?_
  refine Run.rt ?_
  obtain rfl := sI h
  exact qR [(.d t2 (-1 : Int))]
 ·replace h := bif_f h hb
  refine qN [] 400 ⟨[(6, .d t4 (decide ((0 : Int) < (ofN (List.length a0.2)))))], []⟩ aN ?_
  refine Run.cd (decide ((0 : Int) < (ofN (List.length a0.2)))) (fun hb => ?_) (fun hb => ?_)
  ·replace h := bif_t h hb
   refine qN [] 500 ⟨[(2, .d t2 (1 : Int))], []⟩ aN ?_
   refine Run.rt ?_
   obtain rfl := sI h
   exact qR [(.d t2 (1 : Int))]
  ·replace h := bif_f h hb
   refine Run.sk ?_
   show Run Pg 11 _ _ _
   refine qN [] 600 ⟨[(2, .d t2 (0 : Int))], []⟩ aN ?_
   refine Run.rt ?_
   obtain rfl := sI h
   exact qR [(.d t2 (0 : Int))]

/-! ## f109 -/
noncomputable def c_109 : Code := body0 Go.Proofs.Tryz.f109
def fin109 (r : IntL) : Ex → St → Prop := endK X0 [.cell 2 68] [68] (.d t67 r)
def F109 (a0 : IntL) : Option (IntL) :=
 gd (List.length a0.2 ≤ 1073741824) <|
 (F106 (!a0.1) a0.2).bind fun y1 =>
 some y1
theorem c109 {a0 : IntL} {r : IntL} (h : F109 a0 = some r) : CallPure Pg 109 [(.d t67 a0)] (.d t67 r) := by
 refine qC c_109 10 [.cell 2 68] [68] Go.Proofs.Tryz.func109 ?_
 show Run Pg 10 c_109 ⟨[(0, .d t67 a0)], []⟩ (fin109 r)
 unfold F109 at h
 refine qN [] 100 ⟨[(1, .ptr 100 0), (2, .ptr 101 0)], [(100, bx 68 t67 a0), (101, bx 68 t67 (false, ([] : List Int)))]⟩ aN ?_
 obtain ⟨g_0, h⟩ := gd_elim h
 obtain ⟨y1, h_y1, h⟩ := bnd_elim h
 refine qN [(6, .call (.d t67 y1))] 200 ⟨[(2, .ptr 101 0)], [(101, bx 68 t67 y1)]⟩ (aC g_0 (aC (c106 h_y1) aN)) ?_
 refine Run.rt ?_
 obtain rfl := sI h
 exact qR [(.d t67 y1)]

/-! ## f156 -/
noncomputable def c_156 : Code := body0 Go.Proofs.Tryz.f156
def fin156 (r : Int × Bool) : Ex → St → Prop := endK X0 [.tmp 2, .tmp 3] [107, 4] (.tup (.vcons (.d t12 r.1) (.vcons (.d t4 r.2) .vnil)))
def F156 (a0 : IntL) : Option (Int × Bool) :=
 (bif ((ofN (List.length a0.2)) == (0 : Int)) then
 some ((0 : Int), true)
 else
 (bif ((ofN (List.length a0.2)) == (1 : Int)) then
 gd ((0 : Int) < ((List.length a0.2 : Nat) : Int)) <|
 some ((wrapI .u64 (List.getD a0.2 (toN (0 : Int)) (0 : Int))), true)
 else
 (bif ((ofN (List.length a0.2)) == (2 : Int)) then
 gd ((1 : Int) < ((List.length a0.2 : Nat) : Int)) <|
 gd ((0 : Int) < ((List.length a0.2 : Nat) : Int)) <|
 some ((wrapI .u64 ((wrapI .u64 ((wrapI .u64 (List.getD a0.2 (toN (1 : Int)) (0 : Int))) * (1000000000 : Int))) + (wrapI .u64 (List.getD a0.2 (toN (0 : Int)) (0 : Int))))), true)
 else
 some ((0 : Int), false))))
theorem c156 {a0 : IntL} {r : Int × Bool} (h : F156 a0 = some r) : CallPure Pg 156 [(.d t67 a0)] (.tup (.vcons (.d t12 r.1) (.vcons (.d t4 r.2) .vnil))) := by
 refine qC c_156 30 [.tmp 2, .tmp 3] [107, 4] Go.Proofs.Tryz.func156 ?_
 show Run Pg 30 c_156 ⟨[(0, .d t67 a0)], []⟩ (fin156 r)
 unfold F156 at h
 refine qN [] 100 ⟨[(1, .ptr 100 0)], [(100, bx 68 t67 a0)]⟩ aN ?_
 refine Run.sq ?_
 refine qN [] 200 ⟨[(1, .ptr 100 0), (6, .d t2 (ofN (List.length a0.2)))], [(100, bx 68 t67 a0)]⟩ aN ?_
 refine Run.bl 0 ?_
 refine qN [] 300 ⟨[(1, .ptr 100 0), (6, .d t2 (ofN (List.length a0.2))), (7, .d t4 ((ofN (List.length a0.2)) == (0 : Int)))], [(100, bx 68 t67 a0)]⟩ aN ?_
 refine Run.cd ((ofN (List.length a0.2)) == (0 : Int)) (fun hb => ?_) (fun hb => ?_)
 ·replace h := bif_t h hb
  refine qN [] 400 ⟨[(2, .d t12 (0 : Int)), (3, .d t4 true)], []⟩ aN ?_
  refine Run.rt ?_
  obtain rfl := sI h
  exact qR [(.d t12 (0 : Int)), (.d t4 true)]
 ·replace h := bif_f h hb
  refine qN [] 500 ⟨[(1, .ptr 100 0), (6, .d t2 (ofN (List.length a0.2))), (9, .d t4 ((ofN (List.length a0.2)) == (1 : Int)))], [(100, bx 68 t67 a0)]⟩ aN ?_
  refine Run.cd ((ofN (List.length a0.2)) == (1 : Int)) (fun hb => ?_) (fun hb => ?_)
  ·replace h := bif_t h hb
   obtain ⟨g_1, h⟩ := gd_elim h
   refine qN [] 600 ⟨[(2, .d t12 (wrapI .u64 (List.getD a0.2 (toN (0 : Int)) (0 : Int)))), (3, .d t4 true)], []⟩ (aC (show (0 ≤ (0 : Int)) from (by decide)) (aC g_1 aN)) ?_
   refine Run.rt ?_
   obtain rfl := sI h
   exact qR [(.d t12 (wrapI .u64 (List.getD a0.2 (toN (0 : Int)) (0 : Int)))), (.d t4 true)]
  ·replace h := bif_f h hb
   refine qN [] 700 ⟨[(1, .ptr 100 0), (16, .d t4 ((ofN (List.length a0.2)) == (2 : Int)))], [(100, bx 68 t67 a0)]⟩ aN ?_
   refine Run.cd ((ofN (List.length a0.2)) == (2 : Int)) (fun hb => ?_) (fun hb => ?_)
   ·replace h := bif_t h hb
    obtain ⟨g_1, h⟩ := gd_elim h
    obtain ⟨g_3, h⟩ := gd_elim h
    refine qN [] 800 ⟨[(2, .d t12 (wrapI .u64 ((wrapI .u64 ((wrapI .u64 (List.getD a0.2 (toN (1 : Int)) (0 : Int))) * (1000000000 : Int))) + (wrapI .u64 (List.getD a0.2 (toN (0 : Int)) (0 : Int)))))), (3, .d t4 true)], []⟩ (aC (show (0 ≤ (1 : Int)) from (by decide)) (aC g_1 (aC (show (0 ≤ (0 : Int)) from (by decide)) (aC g_3 aN)))) ?_
    refine Run.rt ?_
    obtain rfl := sI h
    exact qR [(.d t12 (wrapI .u64 ((wrapI .u64 ((wrapI .u64 (List.getD a0.2 (toN (1 : Int)) (0 : Int))) * (1000000000 : Int))) + (wrapI .u64 (List.getD a0.2 (toN (0 : Int)) (0 : Int)))))), (.d t4 true)]
   ·replace h := bif_f h hb
    refine Run.sk ?_
    show Run Pg 30 _ _ _
    refine qN [] 900 ⟨[(2, .d t12 (0 : Int)), (3, .d t4 false)], []⟩ aN ?_
    refine Run.rt ?_
    obtain rfl := sI h
    exact qR [(.d t12 (0 : Int)), (.d t4 false)]

/-! ## f159 -/
noncomputable def c_159 : Code := body0 Go.Proofs.Tryz.f159
def fin159 (r : (List Int)) : Ex → St → Prop := endK X0 [.tmp 2] [66] (.d t66 r)
def f159_l0_post  : ((List Int)) → Ex → St → Prop
 | o, x, s => x = .out 0 ∧ s = ⟨[(0, .d t66 o)], []⟩
def f159_l0_b  (again : (List Int) → Option ((List Int))) : (List Int) → Option ((List Int))
 | x1 =>
 (bif (decide ((0 : Int) < (ofN (List.length x1)))) then
 gd (0 ≤ (wrapI .i64 ((ofN (List.length x1)) - (1 : Int)))) <|
 gd ((wrapI .i64 ((ofN (List.length x1)) - (1 : Int))) < ((List.length x1 : Nat) : Int)) <|
 (bif ((List.getD x1 (toN (wrapI .i64 ((ofN (List.length x1)) - (1 : Int)))) (0 : Int)) == (0 : Int)) then
 gd (0 ≤ (wrapI .i64 ((ofN (List.length x1)) - (1 : Int)))) <|
 gd ((wrapI .i64 ((ofN (List.length x1)) - (1 : Int))) ≤ ((List.length x1 : Nat) : Int)) <|
 again (List.take (Int.toNat (wrapI .i64 ((ofN (List.length x1)) - (1 : Int)))) x1)
 else
 some x1)
 else
 some x1)
def f159_l0  : Nat → (List Int) → Option ((List Int)) := loopF (f159_l0_b )
theorem f159_l0_ok  (k : Nat) (x1 : List Int) {out : ((List Int))} (h : f159_l0  k x1 = some out) : Run Pg 21 (bk1 (sq1 (sq2 c_159))) ⟨[(0, .d t66 x1)], []⟩ (f159_l0_post  out) := by
 refine Run.loopN (by kernel_rfl) (fun m s => ∃ x1, s = ⟨[(0, .d t66 x1)], []⟩ ∧ f159_l0  m x1 = some out) ?_ k ⟨x1,  rfl, h⟩
 rintro m s ⟨x1,  rfl, h⟩
 cases m with
 | zero => cases h
 | succ m =>
 replace h : f159_l0_b  (f159_l0  m) x1 = some out := h
 unfold f159_l0_b at h
 refine Run.sq ?_
 rcases bif_elim h with ⟨hb0, h⟩ | ⟨hb0, h⟩
 ·obtain ⟨g_1, h⟩ := gd_elim h
  obtain ⟨g_2, h⟩ := gd_elim h
  refine qN [(3, .b true)] 200 ⟨[(0, .d t66 x1), (14, .d t4 ((List.getD x1 (toN (wrapI .i64 ((ofN (List.length x1)) - (1 : Int)))) (0 : Int)) == (0 : Int)))], []⟩ (aC hb0 (aC g_1 (aC g_2 aN))) ?_
  refine Run.cd ((List.getD x1 (toN (wrapI .i64 ((ofN (List.length x1)) - (1 : Int)))) (0 : Int)) == (0 : Int)) (fun hb => ?_) (fun hb => ?_)
  ·replace h := bif_t h hb
   refine Run.sk ?_
   show Run Pg 21 _ _ _
   refine Run.bl 1 ?_
   obtain ⟨g_0, h⟩ := gd_elim h
   obtain ⟨g_1, h⟩ := gd_elim h
   refine qE [] 300 ⟨[(0, .d t66 (List.take (Int.toNat (wrapI .i64 ((ofN (List.length x1)) - (1 : Int)))) x1))], []⟩ (aC g_0 (aC g_1 aN)) ?_
   exact ⟨m, Nat.lt_succ_self m, _, rfl, h⟩
  ·replace h := bif_f h hb
   refine qK ⟨[(0, .d t66 x1)], []⟩ ?_
   refine Run.ex 0 ?_
   obtain rfl := sI h
   exact ⟨rfl, by kernel_rfl⟩
 ·refine qN [(3, .b false)] 200 ⟨[(0, .d t66 x1), (14, .d t4 false)], []⟩ (aC hb0 aN) ?_
  refine Run.cd false (fun hb => (by cases hb)) (fun hb => ?_)
  refine qK ⟨[(0, .d t66 x1)], []⟩ ?_
  refine Run.ex 0 ?_
  obtain rfl := sI h
  exact ⟨rfl, by kernel_rfl⟩
def F159 (a0 : List Int) : Option ((List Int)) :=
 ((f159_l0  (2 + List.length a0) a0).bind fun o2 =>
 some o2)
theorem c159 {a0 : List Int} {r : (List Int)} (h : F159 a0 = some r) : CallPure Pg 159 [(.d t66 a0)] (.d t66 r) := by
 refine qC c_159 21 [.tmp 2] [66] Go.Proofs.Tryz.func159 ?_
 show Run Pg 21 c_159 ⟨[(0, .d t66 a0)], []⟩ (fin159 r)
 unfold F159 at h
 refine qN [] 100 ⟨[(0, .d t66 a0)], []⟩ aN ?_
 refine Run.sq ?_
 refine Run.bl 0 ?_
 obtain ⟨o2, h_o2, h⟩ := bnd_elim h
 refine Run.mono (f159_l0_ok  _ a0 h_o2) ?_
 rintro _ _ ⟨rfl, rfl⟩
 show Run Pg 21 _ _ _
 refine qN [] 400 ⟨[(2, .d t66 o2)], []⟩ aN ?_
 refine Run.rt ?_
 obtain rfl := sI h
 exact qR [(.d t66 o2)]

/-! ## f194 -/
noncomputable def c_194 : Code := body0 Go.Proofs.Tryz.f194
def fin194 (r : (List Int) × (List Int)) : Ex → St → Prop := endK X0 [.tmp 4, .tmp 5] [66, 66] (.tup (.vcons (.d t66 r.1) (.vcons (.d t66 r.2) .vnil)))
def f194_l0_post (x1 : List Int) (x2 : Int) : (Int × (List Int)) → Ex → St → Prop
 | o, x, s => x = .out 0 ∧ s = ⟨[(6, .vec 202 t158), (7, .d t12 o.1)], [(202, .vec 158 t158 o.2)]⟩
def f194_l0_b (x1 : List Int) (x2 : Int) (again : Int × Int × (List Int) → Option (Int × (List Int))) : Int × Int × (List Int) → Option (Int × (List Int))
 | (x3, x4, x5) =>
 (bif (decide ((0 : Int) ≤ x4)) then
 gd (0 ≤ x4) <|
 gd (x4 < ((List.length x1 : Nat) : Int)) <|
 gd ((wrapI .u64 x2) ≠ 0) <|
 gd ((wrapI .u64 x2) ≠ 0) <|
 gd (0 ≤ x4) <|
 gd (x4 < ((List.length x5 : Nat) : Int)) <|
 gd ((toN x4) < List.length x5) <|
 again ((Int.tmod (wrapI .u64 ((wrapI .u64 (x3 * (1000000000 : Int))) + (wrapI .u64 (List.getD x1 (toN x4) (0 : Int))))) (wrapI .u64 x2)), (wrapI .i64 (x4 - (1 : Int))), (List.set x5 (toN x4) (wrapI .u32 (wrapI .u64 (Int.tdiv (wrapI .u64 ((wrapI .u64 (x3 * (1000000000 : Int))) + (wrapI .u64 (List.getD x1 (toN x4) (0 : Int))))) (wrapI .u64 x2))))))
 else
 some (x3, x5))
def f194_l0 (x1 : List Int) (x2 : Int) : Nat → Int × Int × (List Int) → Option (Int × (List Int)) := loopF (f194_l0_b x1 x2)
theorem f194_l0_ok (x1 : List Int) (x2 : Int) (k : Nat) (x3 : Int) (x4 : Int) (x5 : List Int) {out : (Int × (List Int))} (h : f194_l0 x1 x2 k (x3, x4, x5) = some out) : Run Pg 44 (bk1 (sq2 (sq1 (sq2 (sq2 (sq2 c_194)))))) ⟨[(0, .d t66 x1), (1, .d t158 x2), (6, .vec 202 t158), (7, .d t12 x3), (8, .d t2 x4)], [(202, .vec 158 t158 x5)]⟩ (f194_l0_post x1 x2 out) := by
 refine Run.loopN (by kernel_rfl) (fun m s => ∃ x3 x4 x5, s = ⟨[(0, .d t66 x1), (1, .d t158 x2), (6, .vec 202 t158), (7, .d t12 x3), (8, .d t2 x4)], [(202, .vec 158 t158 x5)]⟩ ∧ f194_l0 x1 x2 m (x3, x4, x5) = some out) ?_ k ⟨x3, x4, x5,  rfl, h⟩
 rintro m s ⟨x3, x4, x5,  rfl, h⟩
 cases m with
 | zero => cases h
 | succ m =>
 replace h : f194_l0_b x1 x2 (f194_l0 x1 x2 m) (x3, x4, x5) = some out := h
 unfold f194_l0_b at h
 refine Run.sq ?_
 refine qN [] 500 ⟨[(0, .d t66 x1), (1, .d t158 x2), (6, .vec 202 t158), (7, .d t12 x3), (8, .d t2 x4), (17, .d t4 (decide ((0 : Int) ≤ x4)))], [(202, .vec 158 t158 x5)]⟩ aN ?_
 refine Run.cd (decide ((0 : Int) ≤ x4)) (fun hb => ?_) (fun hb => ?_)
 ·replace h := bif_t h hb
  refine Run.sk ?_
  show Run Pg 44 _ _ _
  refine Run.sq ?_
  refine Run.bl 1 ?_
  obtain ⟨g_0, h⟩ := gd_elim h
  obtain ⟨g_1, h⟩ := gd_elim h
  refine qN [] 700 ⟨[(0, .d t66 x1), (1, .d t158 x2), (6, .vec 202 t158), (8, .d t2 x4), (9, .d t12 (wrapI .u64 ((wrapI .u64 (x3 * (1000000000 : Int))) + (wrapI .u64 (List.getD x1 (toN x4) (0 : Int))))))], [(202, .vec 158 t158 x5)]⟩ (aC g_0 (aC g_1 aN)) ?_
  obtain ⟨g_0, h⟩ := gd_elim h
  obtain ⟨g_1, h⟩ := gd_elim h
  obtain ⟨g_2, h⟩ := gd_elim h
  obtain ⟨g_3, h⟩ := gd_elim h
  obtain ⟨g_4, h⟩ := gd_elim h
  refine qE [] 800 ⟨[(0, .d t66 x1), (1, .d t158 x2), (6, .vec 202 t158), (7, .d t12 (Int.tmod (wrapI .u64 ((wrapI .u64 (x3 * (1000000000 : Int))) + (wrapI .u64 (List.getD x1 (toN x4) (0 : Int))))) (wrapI .u64 x2))), (8, .d t2 x4)], [(202, .vec 158 t158 (List.set x5 (toN x4) (wrapI .u32 (wrapI .u64 (Int.tdiv (wrapI .u64 ((wrapI .u64 (x3 * (1000000000 : Int))) + (wrapI .u64 (List.getD x1 (toN x4) (0 : Int))))) (wrapI .u64 x2))))))]⟩ (aC g_0 (aC g_1 (aC g_2 (aC g_3 (aC g_4 aN))))) ?_
  show Run Pg 44 _ _ _
  refine qE [] 600 ⟨[(0, .d t66 x1), (1, .d t158 x2), (6, .vec 202 t158), (7, .d t12 (Int.tmod (wrapI .u64 ((wrapI .u64 (x3 * (1000000000 : Int))) + (wrapI .u64 (List.getD x1 (toN x4) (0 : Int))))) (wrapI .u64 x2))), (8, .d t2 (wrapI .i64 (x4 - (1 : Int))))], [(202, .vec 158 t158 (List.set x5 (toN x4) (wrapI .u32 (wrapI .u64 (Int.tdiv (wrapI .u64 ((wrapI .u64 (x3 * (1000000000 : Int))) + (wrapI .u64 (List.getD x1 (toN x4) (0 : Int))))) (wrapI .u64 x2))))))]⟩ aN ?_
  exact ⟨m, Nat.lt_succ_self m, _, _, _, rfl, h⟩
 ·replace h := bif_f h hb
  refine qK ⟨[(6, .vec 202 t158), (7, .d t12 x3)], [(202, .vec 158 t158 x5)]⟩ ?_
  refine Run.ex 0 ?_
  obtain rfl := sI h
  exact ⟨rfl, by kernel_rfl⟩
def F194 (a0 : List Int) (a1 : Int) : Option ((List Int) × (List Int)) :=
 gd (0 ≤ (ofN (List.length a0))) <|
 gd ((ofN (List.length a0)) ≤ (ofN (List.length a0))) <|
 gd ((ofN (List.length a0)) ≤ 1073741824) <|
 ((f194_l0 a0 a1 (2 + List.length a0 + List.length (List.replicate (toN (ofN (List.length a0))) (0 : Int))) ((0 : Int), (wrapI .i64 ((ofN (List.length a0)) - (1 : Int))), (List.replicate (toN (ofN (List.length a0))) (0 : Int)))).bind fun o6 =>
 some (o6.2, ([(wrapI .u32 o6.1)] : List Int)))
theorem c194 {a0 : List Int} {a1 : Int} {r : (List Int) × (List Int)} (h : F194 a0 a1 = some r) : CallPure Pg 194 [(.d t66 a0), (.d t158 a1)] (.tup (.vcons (.d t66 r.1) (.vcons (.d t66 r.2) .vnil))) := by
 refine qC c_194 44 [.tmp 4, .tmp 5] [66, 66] Go.Proofs.Tryz.func194 ?_
 show Run Pg 44 c_194 ⟨[(0, .d t66 a0), (1, .d t158 a1)], []⟩ (fin194 r)
 unfold F194 at h
 refine qN [] 100 ⟨[(0, .d t66 a0), (1, .d t158 a1)], []⟩ aN ?_
 obtain ⟨g_0, h⟩ := gd_elim h
 obtain ⟨g_1, h⟩ := gd_elim h
 obtain ⟨g_2, h⟩ := gd_elim h
 refine qN [] 200 ⟨[(0, .d t66 a0), (1, .d t158 a1), (6, .vec 202 t158)], [(202, .vec 158 t158 (List.replicate (toN (ofN (List.length a0))) (0 : Int)))]⟩ (aC g_0 (aC g_1 (aC g_2 aN))) ?_
 refine qN [] 300 ⟨[(0, .d t66 a0), (1, .d t158 a1), (6, .vec 202 t158), (7, .d t12 (0 : Int))], [(202, .vec 158 t158 (List.replicate (toN (ofN (List.length a0))) (0 : Int)))]⟩ aN ?_
 refine Run.sq ?_
 refine qN [] 400 ⟨[(0, .d t66 a0), (1, .d t158 a1), (6, .vec 202 t158), (7, .d t12 (0 : Int)), (8, .d t2 (wrapI .i64 ((ofN (List.length a0)) - (1 : Int))))], [(202, .vec 158 t158 (List.replicate (toN (ofN (List.length a0))) (0 : Int)))]⟩ aN ?_
 refine Run.bl 0 ?_
 obtain ⟨o6, h_o6, h⟩ := bnd_elim h
 refine Run.mono (f194_l0_ok a0 a1 _ (0 : Int) (wrapI .i64 ((ofN (List.length a0)) - (1 : Int))) (List.replicate (toN (ofN (List.length a0))) (0 : Int)) h_o6) ?_
 rintro _ _ ⟨rfl, rfl⟩
 show Run Pg 44 _ _ _
 refine qN [] 900 ⟨[(4, .vec 202 t158), (5, .d t66 ([(wrapI .u32 o6.1)] : List Int))], [(202, .vec 158 t158 o6.2)]⟩ aN ?_
 refine Run.freeze (s' := ⟨[(4, .d t66 o6.2), (5, .d t66 ([(wrapI .u32 o6.1)] : List Int))], []⟩) 202 (by kernel_rfl) ?_
 refine Run.rt ?_
 obtain rfl := sI h
 exact qR [(.d t66 o6.2), (.d t66 ([(wrapI .u32 o6.1)] : List Int))]

/-! ## f114 -/
noncomputable def c_114 : Code := body0 Go.Proofs.Tryz.f114
def fin114 (r : Int) : Ex → St → Prop := endK X0 [.tmp 4] [3] (.d t2 r)
def f114_l0_post (x3 : List Int) (x4 : List Int) : ((Unit) ⊕ (Int)) → Ex → St → Prop
 | .inl o, x, s => x = .out 0 ∧ s = ⟨[], []⟩
 | .inr o, x, s => x = .ret ∧ fin114  o x s
def f114_l0_b (x3 : List Int) (x4 : List Int) (again : Int → Option ((Unit) ⊕ (Int))) : Int → Option ((Unit) ⊕ (Int))
 | x5 =>
 (bif (decide ((0 : Int) ≤ x5)) then
 gd (0 ≤ x5) <|
 gd (x5 < ((List.length x3 : Nat) : Int)) <|
 gd (0 ≤ x5) <|
 gd (x5 < ((List.length x4 : Nat) : Int)) <|
 (bif (decide ((List.getD x3 (toN x5) (0 : Int)) < (List.getD x4 (toN x5) (0 : Int)))) then
 some (.inr (-1 : Int))
 else
 gd (0 ≤ x5) <|
 gd (x5 < ((List.length x3 : Nat) : Int)) <|
 gd (0 ≤ x5) <|
 gd (x5 < ((List.length x4 : Nat) : Int)) <|
 (bif (decide ((List.getD x4 (toN x5) (0 : Int)) < (List.getD x3 (toN x5) (0 : Int)))) then
 some (.inr (1 : Int))
 else
 again (wrapI .i64 (x5 - (1 : Int)))))
 else
 some (.inl ()))
def f114_l0 (x3 : List Int) (x4 : List Int) : Nat → Int → Option ((Unit) ⊕ (Int)) := loopF (f114_l0_b x3 x4)
theorem f114_l0_ok (x3 : List Int) (x4 : List Int) (k : Nat) (x5 : Int) {out : ((Unit) ⊕ (Int))} (h : f114_l0 x3 x4 k x5 = some out) : Run Pg 45 (bk1 (sq2 (sq1 (sq2 (sq2 (sq2 c_114)))))) ⟨[(0, .d t66 x3), (1, .d t66 x4), (5, .d t2 x5)], []⟩ (f114_l0_post x3 x4 out) := by
 refine Run.loopN (by kernel_rfl) (fun m s => ∃ x5, s = ⟨[(0, .d t66 x3), (1, .d t66 x4), (5, .d t2 x5)], []⟩ ∧ f114_l0 x3 x4 m x5 = some out) ?_ k ⟨x5,  rfl, h⟩
 rintro m s ⟨x5,  rfl, h⟩
 cases m with
 | zero => cases h
 | succ m =>
 replace h : f114_l0_b x3 x4 (f114_l0 x3 x4 m) x5 = some out := h
 unfold f114_l0_b at h
 refine Run.sq ?_
 refine qN [] 800 ⟨[(0, .d t66 x3), (1, .d t66 x4), (5, .d t2 x5), (24, .d t4 (decide ((0 : Int) ≤ x5)))], []⟩ aN ?_
 refine Run.cd (decide ((0 : Int) ≤ x5)) (fun hb => ?_) (fun hb => ?_)
 ·replace h := bif_t h hb
  refine Run.sk ?_
  show Run Pg 45 _ _ _
  refine Run.sq ?_
  refine Run.bl 1 ?_
  refine Run.sq ?_
  obtain ⟨g_0, h⟩ := gd_elim h
  obtain ⟨g_1, h⟩ := gd_elim h
  obtain ⟨g_2, h⟩ := gd_elim h
  obtain ⟨g_3, h⟩ := gd_elim h
  refine qN [] 1000 ⟨[(0, .d t66 x3), (1, .d t66 x4), (5, .d t2 x5), (35, .d t4 (decide ((List.getD x3 (toN x5) (0 : Int)) < (List.getD x4 (toN x5) (0 : Int)))))], []⟩ (aC g_0 (aC g_1 (aC g_2 (aC g_3 aN)))) ?_
  refine Run.cd (decide ((List.getD x3 (toN x5) (0 : Int)) < (List.getD x4 (toN x5) (0 : Int)))) (fun hb => ?_) (fun hb => ?_)
  ·replace h := bif_t h hb
   refine qN [] 1100 ⟨[(4, .d t2 (-1 : Int))], []⟩ aN ?_
   refine Run.rt ?_
   obtain rfl := sI h
   exact ⟨rfl, [(.d t2 (-1 : Int))], by kernel_rfl, by kernel_rfl⟩
  ·replace h := bif_f h hb
   refine Run.sk ?_
   show Run Pg 45 _ _ _
   obtain ⟨g_0, h⟩ := gd_elim h
   obtain ⟨g_1, h⟩ := gd_elim h
   obtain ⟨g_2, h⟩ := gd_elim h
   obtain ⟨g_3, h⟩ := gd_elim h
   refine qN [] 1200 ⟨[(0, .d t66 x3), (1, .d t66 x4), (5, .d t2 x5), (44, .d t4 (decide ((List.getD x4 (toN x5) (0 : Int)) < (List.getD x3 (toN x5) (0 : Int)))))], []⟩ (aC g_0 (aC g_1 (aC g_2 (aC g_3 aN)))) ?_
   refine Run.cd (decide ((List.getD x4 (toN x5) (0 : Int)) < (List.getD x3 (toN x5) (0 : Int)))) (fun hb => ?_) (fun hb => ?_)
   ·replace h := bif_t h hb
    refine qN [] 1300 ⟨[(4, .d t2 (1 : Int))], []⟩ aN ?_
    refine Run.rt ?_
    obtain rfl := sI h
    exact ⟨rfl, [(.d t2 (1 : Int))], by kernel_rfl, by kernel_rfl⟩
   ·replace h := bif_f h hb
    refine Run.sk ?_
    show Run Pg 45 _ _ _
    refine qE [] 900 ⟨[(0, .d t66 x3), (1, .d t66 x4), (5, .d t2 (wrapI .i64 (x5 - (1 : Int))))], []⟩ aN ?_
    exact ⟨m, Nat.lt_succ_self m, _, rfl, h⟩
 ·replace h := bif_f h hb
  refine qK ⟨[], []⟩ ?_
  refine Run.ex 0 ?_
  obtain rfl := sI h
  exact ⟨rfl, by kernel_rfl⟩
def F114 (a0 : List Int) (a1 : List Int) : Option (Int) :=
 (F159 a0).bind fun y1 =>
 (F159 a1).bind fun y2 =>
 (bif ((ofN (List.length y1)) != (ofN (List.length y2))) then
 (bif (decide ((ofN (List.length y1)) < (ofN (List.length y2)))) then
 some (-1 : Int)
 else
 some (1 : Int))
 else
 ((f114_l0 y1 y2 (2 + List.length y1 + List.length y2) (wrapI .i64 ((ofN (List.length y1)) - (1 : Int)))).bind fun o6 => match o6 with
 | .inl o7 =>
 some (0 : Int)
 | .inr o8 =>
 some o8))
theorem c114 {a0 : List Int} {a1 : List Int} {r : Int} (h : F114 a0 a1 = some r) : CallPure Pg 114 [(.d t66 a0), (.d t66 a1)] (.d t2 r) := by
 refine qC c_114 45 [.tmp 4] [3] Go.Proofs.Tryz.func114 ?_
 show Run Pg 45 c_114 ⟨[(0, .d t66 a0), (1, .d t66 a1)], []⟩ (fin114 r)
 unfold F114 at h
 refine qN [] 100 ⟨[(0, .d t66 a0), (1, .d t66 a1)], []⟩ aN ?_
 obtain ⟨y1, h_y1, h⟩ := bnd_elim h
 obtain ⟨y2, h_y2, h⟩ := bnd_elim h
 refine qN [(1, .call (.d t66 y1)), (3, .call (.d t66 y2))] 200 ⟨[(0, .d t66 y1), (1, .d t66 y2)], []⟩ (aC (c159 h_y1) (aC (c159 h_y2) aN)) ?_
 refine Run.sq ?_
 refine qN [] 300 ⟨[(0, .d t66 y1), (1, .d t66 y2), (14, .d t4 ((ofN (List.length y1)) != (ofN (List.length y2))))], []⟩ aN ?_
 refine Run.cd ((ofN (List.length y1)) != (ofN (List.length y2))) (fun hb => ?_) (fun hb => ?_)
 ·replace h := bif_t h hb
  refine Run.sq ?_
  refine qN [] 400 ⟨[(19, .d t4 (decide ((ofN (List.length y1)) < (ofN (List.length y2)))))], []⟩ aN ?_
  refine Run.cd (decide ((ofN (List.length y1)) < (ofN (List.length y2)))) (fun hb => ?_) (fun hb => ?_)
  ·replace h := bif_t h hb
   refine qN [] 500 ⟨[(4, .d t2 (-1 : Int))], []⟩ aN ?_
   refine Run.rt ?_
   obtain rfl := sI h
   exact qR [(.d t2 (-1 : Int))]
  ·replace h := bif_f h hb
   refine Run.sk ?_
   show Run Pg 45 _ _ _
   refine qN [] 600 ⟨[(4, .d t2 (1 : Int))], []⟩ aN ?_
   refine Run.rt ?_
   obtain rfl := sI h
   exact qR [(.d t2 (1 : Int))]
 ·replace h := bif_f h hb
  refine Run.sk ?_
  show Run Pg 45 _ _ _
  refine Run.sq ?_
  refine qN [] 700 ⟨[(0, .d t66 y1), (1, .d t66 y2), (5, .d t2 (wrapI .i64 ((ofN (List.length y1)) - (1 : Int))))], []⟩ aN ?_
  refine Run.bl 0 ?_
  obtain ⟨o6, h_o6, h⟩ := bnd_elim h
  refine Run.mono (f114_l0_ok y1 y2 _ (wrapI .i64 ((ofN (List.length y1)) - (1 : Int))) h_o6) ?_
  rcases o6 with o7 | o8
  ·rintro _ _ ⟨rfl, rfl⟩
   show Run Pg 45 _ _ _
   refine qN [] 1400 ⟨[(4, .d t2 (0 : Int))], []⟩ aN ?_
   refine Run.rt ?_
   obtain rfl := sI h
   exact qR [(.d t2 (0 : Int))]
  ·rintro _ s ⟨rfl, hr⟩
   obtain rfl := sI h
   exact hr

/-! ## f112 -/
def fin112o (r : (List Int)) : Ex → St → Prop := endO X0 [.tmp 4] 158 t158 r
def f112o_l1_post (x16 : List Int) (x17 : Int) (x18 : Int) (x20 : List Int) (x21 : Int) (x22 : Int) : (Int × (List Int)) → Ex → St → Prop
 | o, x, s => x = .out 2 ∧ s = ⟨[(1, .d t66 x16), (5, .vec 205 t158), (6, .d t2 x17), (8, .d t12 o.1), (18, .d t66 x20), (19, .d t2 x21), (20, .d t2 x17)], [(205, .vec 158 t158 o.2)]⟩
def f112o_l1_b (x16 : List Int) (x17 : Int) (x18 : Int) (x22 : Int) (again : Int × Int × (List Int) → Option (Int × (List Int))) : Int × Int × (List Int) → Option (Int × (List Int))
 | (x19, x23, x24) =>
 (bif (decide (x23 < x22)) then
 gd (0 ≤ x23) <|
 gd (x23 < ((List.length x16 : Nat) : Int)) <|
 gd (0 ≤ (wrapI .i64 (x17 + x23))) <|
 gd ((wrapI .i64 (x17 + x23)) < ((List.length x24 : Nat) : Int)) <|
 gd ((toN (wrapI .i64 (x17 + x23))) < List.length x24) <|
 gd (0 ≤ (wrapI .i64 (x17 + x23))) <|
 gd ((wrapI .i64 (x17 + x23)) < ((List.length x24 : Nat) : Int)) <|
 gd ((toN (wrapI .i64 (x17 + x23))) < List.length x24) <|
 again ((wrapI .u64 (Int.tdiv (wrapI .u64 ((wrapI .u64 ((wrapI .u64 (List.getD x24 (toN (wrapI .i64 (x17 + x23))) (0 : Int))) + (wrapI .u64 ((wrapI .u64 x18) * (wrapI .u64 (List.getD x16 (toN x23) (0 : Int))))))) + x19)) (1000000000 : Int))), (wrapI .i64 (x23 + (1 : Int))), (List.set x24 (toN (wrapI .i64 (x17 + x23))) (wrapI .u32 (Int.tmod (wrapI .u64 ((wrapI .u64 ((wrapI .u64 (List.getD x24 (toN (wrapI .i64 (x17 + x23))) (0 : Int))) + (wrapI .u64 ((wrapI .u64 x18) * (wrapI .u64 (List.getD x16 (toN x23) (0 : Int))))))) + x19)) (1000000000 : Int)))))
 else
 some (x19, x24))
def f112o_l1 (x16 : List Int) (x17 : Int) (x18 : Int) (x22 : Int) : Nat → Int × Int × (List Int) → Option (Int × (List Int)) := loopF (f112o_l1_b x16 x17 x18 x22)
theorem f112o_l1_ok (x16 : List Int) (x17 : Int) (x18 : Int) (x20 : List Int) (x21 : Int) (x22 : Int) (k : Nat) (x19 : Int) (x23 : Int) (x24 : List Int) {out : (Int × (List Int))} (h : f112o_l1 x16 x17 x18 x22 k (x19, x23, x24) = some out) : Run Pg 68 (bk1 (sq2 (sq1 (sq2 (sq2 (bk1 (sq1 (sq2 (sq2 (lp1 (bk1 (sq2 (sq1 (sq2 (sq2 c_112))))))))))))))) ⟨[(1, .d t66 x16), (5, .vec 205 t158), (6, .d t2 x17), (7, .d t158 x18), (8, .d t12 x19), (18, .d t66 x20), (19, .d t2 x21), (20, .d t2 x17), (25, .d t66 x16), (26, .d t2 x22), (27, .d t2 x23)], [(205, .vec 158 t158 x24)]⟩ (f112o_l1_post x16 x17 x18 x20 x21 x22 out) := by
 refine Run.loopN (by kernel_rfl) (fun m s => ∃ x19 x23 x24, s = ⟨[(1, .d t66 x16), (5, .vec 205 t158), (6, .d t2 x17), (7, .d t158 x18), (8, .d t12 x19), (18, .d t66 x20), (19, .d t2 x21), (20, .d t2 x17), (25, .d t66 x16), (26, .d t2 x22), (27, .d t2 x23)], [(205, .vec 158 t158 x24)]⟩ ∧ f112o_l1 x16 x17 x18 x22 m (x19, x23, x24) = some out) ?_ k ⟨x19, x23, x24,  rfl, h⟩
 rintro m s ⟨x19, x23, x24,  rfl, h⟩
 cases m with
 | zero => cases h
 | succ m =>
 replace h : f112o_l1_b x16 x17 x18 x22 (f112o_l1 x16 x17 x18 x22 m) (x19, x23, x24) = some out := h
 unfold f112o_l1_b at h
 refine qN [] 800 ⟨[(1, .d t66 x16), (5, .vec 205 t158), (6, .d t2 x17), (7, .d t158 x18), (8, .d t12 x19), (18, .d t66 x20), (19, .d t2 x21), (20, .d t2 x17), (25, .d t66 x16), (26, .d t2 x22), (27, .d t2 x23), (28, .d t4 (decide (x23 < x22)))], [(205, .vec 158 t158 x24)]⟩ aN ?_
 refine Run.sq ?_
 refine Run.cd (decide (x23 < x22)) (fun hb => ?_) (fun hb => ?_)
 ·replace h := bif_t h hb
  refine Run.sk ?_
  show Run Pg 68 _ _ _
  refine Run.sq ?_
  refine Run.bl 3 ?_
  obtain ⟨g_0, h⟩ := gd_elim h
  obtain ⟨g_1, h⟩ := gd_elim h
  refine qN [] 900 ⟨[(1, .d t66 x16), (5, .vec 205 t158), (6, .d t2 x17), (7, .d t158 x18), (8, .d t12 x19), (9, .d t2 x23), (10, .d t158 (List.getD x16 (toN x23) (0 : Int))), (18, .d t66 x20), (19, .d t2 x21), (20, .d t2 x17), (25, .d t66 x16), (26, .d t2 x22), (27, .d t2 x23)], [(205, .vec 158 t158 x24)]⟩ (aC g_0 (aC g_1 aN)) ?_
  obtain ⟨g_0, h⟩ := gd_elim h
  obtain ⟨g_1, h⟩ := gd_elim h
  obtain ⟨g_2, h⟩ := gd_elim h
  refine qN [] 1000 ⟨[(1, .d t66 x16), (5, .vec 205 t158), (6, .d t2 x17), (7, .d t158 x18), (9, .d t2 x23), (11, .d t12 (wrapI .u64 ((wrapI .u64 ((wrapI .u64 (List.getD x24 (toN (wrapI .i64 (x17 + x23))) (0 : Int))) + (wrapI .u64 ((wrapI .u64 x18) * (wrapI .u64 (List.getD x16 (toN x23) (0 : Int))))))) + x19))), (18, .d t66 x20), (19, .d t2 x21), (20, .d t2 x17), (25, .d t66 x16), (26, .d t2 x22), (27, .d t2 x23)], [(205, .vec 158 t158 x24)]⟩ (aC g_0 (aC g_1 (aC g_2 aN))) ?_
  obtain ⟨g_2, h⟩ := gd_elim h
  obtain ⟨g_3, h⟩ := gd_elim h
  obtain ⟨g_4, h⟩ := gd_elim h
  refine qE [] 1100 ⟨[(1, .d t66 x16), (5, .vec 205 t158), (6, .d t2 x17), (7, .d t158 x18), (8, .d t12 (wrapI .u64 (Int.tdiv (wrapI .u64 ((wrapI .u64 ((wrapI .u64 (List.getD x24 (toN (wrapI .i64 (x17 + x23))) (0 : Int))) + (wrapI .u64 ((wrapI .u64 x18) * (wrapI .u64 (List.getD x16 (toN x23) (0 : Int))))))) + x19)) (1000000000 : Int)))), (18, .d t66 x20), (19, .d t2 x21), (20, .d t2 x17), (25, .d t66 x16), (26, .d t2 x22), (27, .d t2 x23)], [(205, .vec 158 t158 (List.set x24 (toN (wrapI .i64 (x17 + x23))) (wrapI .u32 (Int.tmod (wrapI .u64 ((wrapI .u64 ((wrapI .u64 (List.getD x24 (toN (wrapI .i64 (x17 + x23))) (0 : Int))) + (wrapI .u64 ((wrapI .u64 x18) * (wrapI .u64 (List.getD x16 (toN x23) (0 : Int))))))) + x19)) (1000000000 : Int)))))]⟩ (aC (show ((1000000000 : Int) ≠ 0) from (by decide)) (aC (show ((1000000000 : Int) ≠ 0) from (by decide)) (aC g_2 (aC g_3 (aC g_4 aN))))) ?_
  show Run Pg 68 _ _ _
  refine qE [] 1200 ⟨[(1, .d t66 x16), (5, .vec 205 t158), (6, .d t2 x17), (7, .d t158 x18), (8, .d t12 (wrapI .u64 (Int.tdiv (wrapI .u64 ((wrapI .u64 ((wrapI .u64 (List.getD x24 (toN (wrapI .i64 (x17 + x23))) (0 : Int))) + (wrapI .u64 ((wrapI .u64 x18) * (wrapI .u64 (List.getD x16 (toN x23) (0 : Int))))))) + x19)) (1000000000 : Int)))), (18, .d t66 x20), (19, .d t2 x21), (20, .d t2 x17), (25, .d t66 x16), (26, .d t2 x22), (27, .d t2 (wrapI .i64 (x23 + (1 : Int))))], [(205, .vec 158 t158 (List.set x24 (toN (wrapI .i64 (x17 + x23))) (wrapI .u32 (Int.tmod (wrapI .u64 ((wrapI .u64 ((wrapI .u64 (List.getD x24 (toN (wrapI .i64 (x17 + x23))) (0 : Int))) + (wrapI .u64 ((wrapI .u64 x18) * (wrapI .u64 (List.getD x16 (toN x23) (0 : Int))))))) + x19)) (1000000000 : Int)))))]⟩ aN ?_
  exact ⟨m, Nat.lt_succ_self m, _, _, _, rfl, h⟩
 ·replace h := bif_f h hb
  refine qK ⟨[(1, .d t66 x16), (5, .vec 205 t158), (6, .d t2 x17), (8, .d t12 x19), (18, .d t66 x20), (19, .d t2 x21), (20, .d t2 x17)], [(205, .vec 158 t158 x24)]⟩ ?_
  refine Run.ex 2 ?_
  obtain rfl := sI h
  exact ⟨rfl, by kernel_rfl⟩
def f112o_l0_post (x1 : List Int) (x2 : List Int) (x3 : Int) : ((List Int)) → Ex → St → Prop
 | o, x, s => x = .out 0 ∧ s = ⟨[(5, .vec 205 t158)], [(205, .vec 158 t158 o)]⟩
def f112o_l0_b (x1 : List Int) (x2 : List Int) (x3 : Int) (again : Int × (List Int) → Option ((List Int))) : Int × (List Int) → Option ((List Int))
 | (x4, x5) =>
 (bif (decide (x4 < x3)) then
 gd (0 ≤ x4) <|
 gd (x4 < ((List.length x2 : Nat) : Int)) <|
 ((f112o_l1 x1 x4 (List.getD x2 (toN x4) (0 : Int)) (ofN (List.length x1)) (2 + List.length x1 + List.length x2 + List.length x5) ((0 : Int), (0 : Int), x5)).bind fun o25 =>
 gd (0 ≤ (wrapI .i64 (x4 + (ofN (List.length x1))))) <|
 gd ((wrapI .i64 (x4 + (ofN (List.length x1)))) < ((List.length o25.2 : Nat) : Int)) <|
 gd ((toN (wrapI .i64 (x4 + (ofN (List.length x1))))) < List.length o25.2) <|
 again ((wrapI .i64 (x4 + (1 : Int))), (List.set o25.2 (toN (wrapI .i64 (x4 + (ofN (List.length x1))))) (wrapI .u32 o25.1))))
 else
 some x5)
def f112o_l0 (x1 : List Int) (x2 : List Int) (x3 : Int) : Nat → Int × (List Int) → Option ((List Int)) := loopF (f112o_l0_b x1 x2 x3)
theorem f112o_l0_ok (x1 : List Int) (x2 : List Int) (x3 : Int) (k : Nat) (x4 : Int) (x5 : List Int) {out : ((List Int))} (h : f112o_l0 x1 x2 x3 k (x4, x5) = some out) : Run Pg 68 (bk1 (sq2 (sq1 (sq2 (sq2 c_112))))) ⟨[(1, .d t66 x1), (5, .vec 205 t158), (18, .d t66 x2), (19, .d t2 x3), (20, .d t2 x4)], [(205, .vec 158 t158 x5)]⟩ (f112o_l0_post x1 x2 x3 out) := by
 refine Run.loopN (by kernel_rfl) (fun m s => ∃ x4 x5, s = ⟨[(1, .d t66 x1), (5, .vec 205 t158), (18, .d t66 x2), (19, .d t2 x3), (20, .d t2 x4)], [(205, .vec 158 t158 x5)]⟩ ∧ f112o_l0 x1 x2 x3 m (x4, x5) = some out) ?_ k ⟨x4, x5,  rfl, h⟩
 rintro m s ⟨x4, x5,  rfl, h⟩
 cases m with
 | zero => cases h
 | succ m =>
 replace h : f112o_l0_b x1 x2 x3 (f112o_l0 x1 x2 x3 m) (x4, x5) = some out := h
 unfold f112o_l0_b at h
 refine qN [] 400 ⟨[(1, .d t66 x1), (5, .vec 205 t158), (18, .d t66 x2), (19, .d t2 x3), (20, .d t2 x4), (21, .d t4 (decide (x4 < x3)))], [(205, .vec 158 t158 x5)]⟩ aN ?_
 refine Run.sq ?_
 refine Run.cd (decide (x4 < x3)) (fun hb => ?_) (fun hb => ?_)
 ·replace h := bif_t h hb
  refine Run.sk ?_
  show Run Pg 68 _ _ _
  refine Run.sq ?_
  refine Run.bl 1 ?_
  obtain ⟨g_0, h⟩ := gd_elim h
  obtain ⟨g_1, h⟩ := gd_elim h
  refine qN [] 500 ⟨[(1, .d t66 x1), (5, .vec 205 t158), (6, .d t2 x4), (7, .d t158 (List.getD x2 (toN x4) (0 : Int))), (18, .d t66 x2), (19, .d t2 x3), (20, .d t2 x4)], [(205, .vec 158 t158 x5)]⟩ (aC g_0 (aC g_1 aN)) ?_
  refine qN [] 600 ⟨[(1, .d t66 x1), (5, .vec 205 t158), (6, .d t2 x4), (7, .d t158 (List.getD x2 (toN x4) (0 : Int))), (8, .d t12 (0 : Int)), (18, .d t66 x2), (19, .d t2 x3), (20, .d t2 x4)], [(205, .vec 158 t158 x5)]⟩ aN ?_
  refine Run.sq ?_
  refine qN [] 700 ⟨[(1, .d t66 x1), (5, .vec 205 t158), (6, .d t2 x4), (7, .d t158 (List.getD x2 (toN x4) (0 : Int))), (8, .d t12 (0 : Int)), (18, .d t66 x2), (19, .d t2 x3), (20, .d t2 x4), (25, .d t66 x1), (26, .d t2 (ofN (List.length x1))), (27, .d t2 (0 : Int))], [(205, .vec 158 t158 x5)]⟩ aN ?_
  refine Run.bl 2 ?_
  obtain ⟨o25, h_o25, h⟩ := bnd_elim h
  refine Run.mono (f112o_l1_ok x1 x4 (List.getD x2 (toN x4) (0 : Int)) x2 x3 (ofN (List.length x1)) _ (0 : Int) (0 : Int) x5 h_o25) ?_
  rintro _ _ ⟨rfl, rfl⟩
  show Run Pg 68 _ _ _
  obtain ⟨g_0, h⟩ := gd_elim h
  obtain ⟨g_1, h⟩ := gd_elim h
  obtain ⟨g_2, h⟩ := gd_elim h
  refine qE [] 1300 ⟨[(1, .d t66 x1), (5, .vec 205 t158), (18, .d t66 x2), (19, .d t2 x3), (20, .d t2 x4)], [(205, .vec 158 t158 (List.set o25.2 (toN (wrapI .i64 (x4 + (ofN (List.length x1))))) (wrapI .u32 o25.1)))]⟩ (aC g_0 (aC g_1 (aC g_2 aN))) ?_
  show Run Pg 68 _ _ _
  refine qE [] 1400 ⟨[(1, .d t66 x1), (5, .vec 205 t158), (18, .d t66 x2), (19, .d t2 x3), (20, .d t2 (wrapI .i64 (x4 + (1 : Int))))], [(205, .vec 158 t158 (List.set o25.2 (toN (wrapI .i64 (x4 + (ofN (List.length x1))))) (wrapI .u32 o25.1)))]⟩ aN ?_
  exact ⟨m, Nat.lt_succ_self m, _, _, rfl, h⟩
 ·replace h := bif_f h hb
  refine qK ⟨[(5, .vec 205 t158)], [(205, .vec 158 t158 x5)]⟩ ?_
  refine Run.ex 0 ?_
  obtain rfl := sI h
  exact ⟨rfl, by kernel_rfl⟩
def F112o (a0 : List Int) (a1 : List Int) : Option ((List Int)) :=
 gd (0 ≤ (wrapI .i64 ((ofN (List.length a0)) + (ofN (List.length a1))))) <|
 gd ((wrapI .i64 ((ofN (List.length a0)) + (ofN (List.length a1)))) ≤ (wrapI .i64 ((ofN (List.length a0)) + (ofN (List.length a1))))) <|
 gd ((wrapI .i64 ((ofN (List.length a0)) + (ofN (List.length a1)))) ≤ 1073741824) <|
 ((f112o_l0 a1 a0 (ofN (List.length a0)) (2 + List.length a1 + List.length a0 + List.length (List.replicate (toN (wrapI .i64 ((ofN (List.length a0)) + (ofN (List.length a1))))) (0 : Int))) ((0 : Int), (List.replicate (toN (wrapI .i64 ((ofN (List.length a0)) + (ofN (List.length a1))))) (0 : Int)))).bind fun o26 =>
 some o26)
theorem c112o {a0 : List Int} {a1 : List Int} {r : (List Int)} (h : F112o a0 a1 = some r) : CallOwn Pg 112 [(.d t66 a0), (.d t66 a1)] 158 t158 r := by
 refine callOwnN hX c_112 68 [.tmp 4] Go.Proofs.Tryz.func112 (by kernel_rfl) (by kernel_rfl) (by kernel_rfl) (Nat.le_of_ble_eq_true rfl) ?_
 show Run Pg 68 c_112 ⟨[(0, .d t66 a0), (1, .d t66 a1)], []⟩ (fin112o r)
 unfold F112o at h
 refine qN [] 100 ⟨[(0, .d t66 a0), (1, .d t66 a1)], []⟩ aN ?_
 obtain ⟨g_0, h⟩ := gd_elim h
 obtain ⟨g_1, h⟩ := gd_elim h
 obtain ⟨g_2, h⟩ := gd_elim h
 refine qN [] 200 ⟨[(0, .d t66 a0), (1, .d t66 a1), (5, .vec 205 t158)], [(205, .vec 158 t158 (List.replicate (toN (wrapI .i64 ((ofN (List.length a0)) + (ofN (List.length a1))))) (0 : Int)))]⟩ (aC g_0 (aC g_1 (aC g_2 aN))) ?_
 refine Run.sq ?_
 refine qN [] 300 ⟨[(1, .d t66 a1), (5, .vec 205 t158), (18, .d t66 a0), (19, .d t2 (ofN (List.length a0))), (20, .d t2 (0 : Int))], [(205, .vec 158 t158 (List.replicate (toN (wrapI .i64 ((ofN (List.length a0)) + (ofN (List.length a1))))) (0 : Int)))]⟩ aN ?_
 refine Run.bl 0 ?_
 obtain ⟨o26, h_o26, h⟩ := bnd_elim h
 refine Run.mono (f112o_l0_ok a1 a0 (ofN (List.length a0)) _ (0 : Int) (List.replicate (toN (wrapI .i64 ((ofN (List.length a0)) + (ofN (List.length a1))))) (0 : Int)) h_o26) ?_
 rintro _ _ ⟨rfl, rfl⟩
 show Run Pg 68 _ _ _
 refine qN [] 1500 ⟨[(4, .vec 205 t158)], [(205, .vec 158 t158 o26)]⟩ aN ?_
 refine Run.rt ?_
 obtain rfl := sI h
 exact ⟨4, 205, rfl, by kernel_rfl⟩

/-! ## f195 -/
noncomputable def c_195 : Code := body0 Go.Proofs.Tryz.f195
def fin195s0 (a4 : List Int) (r : IntL) : Ex → St → Prop := endS X0 [.tmp 6] [4] (.d t4 r.1) [(1000000, .vec 158 t158 r.2)]
def f195s0_c1_post (x34 : Nat) (x35 : Nat) (x36 : List Int) (x37 : Int) (x38 : Int) (x39 : Int) (x40 : Int) (x41 : Int) (x42 : Bool) (x43 : List Int) : (Int) → Ex → St → Prop
 | o, x, s => x = .nrm ∧ s = ⟨[(0, .sub 1000000 t158 x34 x35), (1, .d t66 x36), (2, .d t12 x37), (8, .d t12 x38), (9, .d t2 x39), (10, .d t12 o), (14, .d t2 x41), (15, .d t2 x39)], [(1000000, .vec 158 t158 x43)]⟩
def f195s0_c1 (x36 : List Int) (x37 : Int) (x39 : Int) (x40 : Int) (x42 : Bool) : Option (Int) :=
 (bif x42 then
 gd (0 ≤ x39) <|
 gd (x39 < ((List.length x36 : Nat) : Int)) <|
 some (wrapI .u64 (x40 + (wrapI .u64 ((wrapI .u64 (List.getD x36 (toN x39) (0 : Int))) * x37))))
 else
 some x40)
theorem f195s0_c1_ok (x34 : Nat) (x35 : Nat) (x36 : List Int) (x37 : Int) (x38 : Int) (x39 : Int) (x40 : Int) (x41 : Int) (x42 : Bool) (x43 : List Int) {out : (Int)} (h : f195s0_c1 x36 x37 x39 x40 x42 = some out) : Run Pg 62 (sq2 (sq1 (sq2 (sq2 (bk1 (sq1 (sq2 (sq2 (lp1 (bk1 (sq2 (sq1 (sq2 (sq2 c_195)))))))))))))) ⟨[(0, .sub 1000000 t158 x34 x35), (1, .d t66 x36), (2, .d t12 x37), (8, .d t12 x38), (9, .d t2 x39), (10, .d t12 x40), (14, .d t2 x41), (15, .d t2 x39), (22, .d t4 x42)], [(1000000, .vec 158 t158 x43)]⟩ (f195s0_c1_post x34 x35 x36 x37 x38 x39 x40 x41 x42 x43 out) := by
 unfold f195s0_c1 at h
 refine Run.cd x42 (fun hb => ?_) (fun hb => ?_)
 ·replace h := bif_t h hb
  obtain ⟨g_0, h⟩ := gd_elim h
  obtain ⟨g_1, h⟩ := gd_elim h
  refine qE [] 800 ⟨[(0, .sub 1000000 t158 x34 x35), (1, .d t66 x36), (2, .d t12 x37), (8, .d t12 x38), (9, .d t2 x39), (10, .d t12 (wrapI .u64 (x40 + (wrapI .u64 ((wrapI .u64 (List.getD x36 (toN x39) (0 : Int))) * x37))))), (14, .d t2 x41), (15, .d t2 x39)], [(1000000, .vec 158 t158 x43)]⟩ (aC g_0 (aC g_1 aN)) ?_
  obtain rfl := sI h
  exact ⟨rfl, by kernel_rfl⟩
 ·replace h := bif_f h hb
  refine qK ⟨[(0, .sub 1000000 t158 x34 x35), (1, .d t66 x36), (2, .d t12 x37), (8, .d t12 x38), (9, .d t2 x39), (10, .d t12 x40), (14, .d t2 x41), (15, .d t2 x39)], [(1000000, .vec 158 t158 x43)]⟩ ?_
  refine Run.sk ?_
  obtain rfl := sI h
  exact ⟨rfl, by kernel_rfl⟩
def f195s0_c2_post (x45 : Nat) (x46 : Nat) (x47 : List Int) (x48 : Int) (x49 : Int) (x50 : Int) (x51 : Int) (x52 : Int) (x53 : Int) (x54 : Int) (x55 : Bool) (x56 : List Int) : (Int × Int) → Ex → St → Prop
 | o, x, s => x = .nrm ∧ s = ⟨[(0, .sub 1000000 t158 x45 x46), (1, .d t66 x47), (2, .d t12 x48), (7, .d t12 x49), (8, .d t12 o.1), (9, .d t2 x51), (11, .d t12 x52), (12, .d t12 o.2), (14, .d t2 x54), (15, .d t2 x51)], [(1000000, .vec 158 t158 x56)]⟩
def f195s0_c2 (x50 : Int) (x53 : Int) (x55 : Bool) : Option (Int × Int) :=
 (bif x55 then
 some ((1 : Int), (wrapI .u64 (x53 + (1000000000 : Int))))
 else
 some (x50, x53))
theorem f195s0_c2_ok (x45 : Nat) (x46 : Nat) (x47 : List Int) (x48 : Int) (x49 : Int) (x50 : Int) (x51 : Int) (x52 : Int) (x53 : Int) (x54 : Int) (x55 : Bool) (x56 : List Int) {out : (Int × Int)} (h : f195s0_c2 x50 x53 x55 = some out) : Run Pg 62 (sq2 (sq1 (sq2 (sq2 (sq2 (sq2 (sq2 (sq2 (sq2 (bk1 (sq1 (sq2 (sq2 (lp1 (bk1 (sq2 (sq1 (sq2 (sq2 c_195))))))))))))))))))) ⟨[(0, .sub 1000000 t158 x45 x46), (1, .d t66 x47), (2, .d t12 x48), (7, .d t12 x49), (8, .d t12 x50), (9, .d t2 x51), (11, .d t12 x52), (12, .d t12 x53), (14, .d t2 x54), (15, .d t2 x51), (45, .d t4 x55)], [(1000000, .vec 158 t158 x56)]⟩ (f195s0_c2_post x45 x46 x47 x48 x49 x50 x51 x52 x53 x54 x55 x56 out) := by
 unfold f195s0_c2 at h
 refine Run.cd x55 (fun hb => ?_) (fun hb => ?_)
 ·replace h := bif_t h hb
  refine qE [] 1400 ⟨[(0, .sub 1000000 t158 x45 x46), (1, .d t66 x47), (2, .d t12 x48), (7, .d t12 x49), (8, .d t12 (1 : Int)), (9, .d t2 x51), (11, .d t12 x52), (12, .d t12 (wrapI .u64 (x53 + (1000000000 : Int)))), (14, .d t2 x54), (15, .d t2 x51)], [(1000000, .vec 158 t158 x56)]⟩ aN ?_
  obtain rfl := sI h
  exact ⟨rfl, by kernel_rfl⟩
 ·replace h := bif_f h hb
  refine qK ⟨[(0, .sub 1000000 t158 x45 x46), (1, .d t66 x47), (2, .d t12 x48), (7, .d t12 x49), (8, .d t12 x50), (9, .d t2 x51), (11, .d t12 x52), (12, .d t12 x53), (14, .d t2 x54), (15, .d t2 x51)], [(1000000, .vec 158 t158 x56)]⟩ ?_
  refine Run.sk ?_
  obtain rfl := sI h
  exact ⟨rfl, by kernel_rfl⟩
def f195s0_l0_post (x1 : Nat) (x2 : Nat) (x3 : List Int) (x4 : Int) (x7 : Int) : (Int × Int × (List Int)) → Ex → St → Prop
 | o, x, s => x = .out 0 ∧ s = ⟨[(7, .d t12 o.1), (8, .d t12 o.2.1)], [(1000000, .vec 158 t158 o.2.2)]⟩
def f195s0_l0_b (x1 : Nat) (x2 : Nat) (x3 : List Int) (x4 : Int) (x7 : Int) (again : Int × Int × Int × (List Int) → Option (Int × Int × (List Int))) : Int × Int × Int × (List Int) → Option (Int × Int × (List Int))
 | (x5, x6, x8, x9) =>
 (bif (decide (x8 < x7)) then
 ((f195s0_c1 x3 x4 x8 x5 (decide (x8 < (ofN (List.length x3))))).bind fun o44 =>
 gd (0 ≤ x8) <|
 gd (x8 < ((x2 : Nat) : Int)) <|
 gd ((x1 + toN x8) < List.length x9) <|
 ((f195s0_c2 (0 : Int) (wrapI .u64 (List.getD x9 (x1 + toN x8) (0 : Int))) (decide ((wrapI .u64 (List.getD x9 (x1 + toN x8) (0 : Int))) < (wrapI .u64 ((Int.tmod o44 (1000000000 : Int)) + x6))))).bind fun o57 =>
 gd (0 ≤ x8) <|
 gd (x8 < ((x2 : Nat) : Int)) <|
 gd ((x1 + toN x8) < List.length x9) <|
 again ((wrapI .u64 (Int.tdiv o44 (1000000000 : Int))), o57.1, (wrapI .i64 (x8 + (1 : Int))), (List.set x9 (x1 + toN x8) (wrapI .u32 (wrapI .u64 (o57.2 - (wrapI .u64 ((Int.tmod o44 (1000000000 : Int)) + x6)))))))))
 else
 some (x5, x6, x9))
def f195s0_l0 (x1 : Nat) (x2 : Nat) (x3 : List Int) (x4 : Int) (x7 : Int) : Nat → Int × Int × Int × (List Int) → Option (Int × Int × (List Int)) := loopF (f195s0_l0_b x1 x2 x3 x4 x7)
theorem f195s0_l0_ok (x1 : Nat) (x2 : Nat) (x3 : List Int) (x4 : Int) (x7 : Int) (k : Nat) (x5 : Int) (x6 : Int) (x8 : Int) (x9 : List Int) {out : (Int × Int × (List Int))} (h : f195s0_l0 x1 x2 x3 x4 x7 k (x5, x6, x8, x9) = some out) : Run Pg 62 (bk1 (sq2 (sq1 (sq2 (sq2 c_195))))) ⟨[(0, .sub 1000000 t158 x1 x2), (1, .d t66 x3), (2, .d t12 x4), (7, .d t12 x5), (8, .d t12 x6), (14, .d t2 x7), (15, .d t2 x8)], [(1000000, .vec 158 t158 x9)]⟩ (f195s0_l0_post x1 x2 x3 x4 x7 out) := by
 refine Run.loopN (by kernel_rfl) (fun m s => ∃ x5 x6 x8 x9, s = ⟨[(0, .sub 1000000 t158 x1 x2), (1, .d t66 x3), (2, .d t12 x4), (7, .d t12 x5), (8, .d t12 x6), (14, .d t2 x7), (15, .d t2 x8)], [(1000000, .vec 158 t158 x9)]⟩ ∧ f195s0_l0 x1 x2 x3 x4 x7 m (x5, x6, x8, x9) = some out) ?_ k ⟨x5, x6, x8, x9,  rfl, h⟩
 rintro m s ⟨x5, x6, x8, x9,  rfl, h⟩
 cases m with
 | zero => cases h
 | succ m =>
 replace h : f195s0_l0_b x1 x2 x3 x4 x7 (f195s0_l0 x1 x2 x3 x4 x7 m) (x5, x6, x8, x9) = some out := h
 unfold f195s0_l0_b at h
 refine qN [] 400 ⟨[(0, .sub 1000000 t158 x1 x2), (1, .d t66 x3), (2, .d t12 x4), (7, .d t12 x5), (8, .d t12 x6), (14, .d t2 x7), (15, .d t2 x8), (16, .d t4 (decide (x8 < x7)))], [(1000000, .vec 158 t158 x9)]⟩ aN ?_
 refine Run.sq ?_
 refine Run.cd (decide (x8 < x7)) (fun hb => ?_) (fun hb => ?_)
 ·replace h := bif_t h hb
  refine Run.sk ?_
  show Run Pg 62 _ _ _
  refine Run.sq ?_
  refine Run.bl 1 ?_
  refine qN [] 500 ⟨[(0, .sub 1000000 t158 x1 x2), (1, .d t66 x3), (2, .d t12 x4), (7, .d t12 x5), (8, .d t12 x6), (9, .d t2 x8), (14, .d t2 x7), (15, .d t2 x8)], [(1000000, .vec 158 t158 x9)]⟩ aN ?_
  refine qN [] 600 ⟨[(0, .sub 1000000 t158 x1 x2), (1, .d t66 x3), (2, .d t12 x4), (8, .d t12 x6), (9, .d t2 x8), (10, .d t12 x5), (14, .d t2 x7), (15, .d t2 x8)], [(1000000, .vec 158 t158 x9)]⟩ aN ?_
  refine Run.sq ?_
  refine qN [] 700 ⟨[(0, .sub 1000000 t158 x1 x2), (1, .d t66 x3), (2, .d t12 x4), (8, .d t12 x6), (9, .d t2 x8), (10, .d t12 x5), (14, .d t2 x7), (15, .d t2 x8), (22, .d t4 (decide (x8 < (ofN (List.length x3)))))], [(1000000, .vec 158 t158 x9)]⟩ aN ?_
  obtain ⟨o44, h_o44, h⟩ := bnd_elim h
  refine Run.mono (f195s0_c1_ok x1 x2 x3 x4 x6 x8 x5 x7 (decide (x8 < (ofN (List.length x3)))) x9 h_o44) ?_
  rintro _ _ ⟨rfl, rfl⟩
  show Run Pg 62 _ _ _
  refine qN [] 900 ⟨[(0, .sub 1000000 t158 x1 x2), (1, .d t66 x3), (2, .d t12 x4), (7, .d t12 (wrapI .u64 (Int.tdiv o44 (1000000000 : Int)))), (8, .d t12 x6), (9, .d t2 x8), (10, .d t12 o44), (14, .d t2 x7), (15, .d t2 x8)], [(1000000, .vec 158 t158 x9)]⟩ (aC (show ((1000000000 : Int) ≠ 0) from (by decide)) aN) ?_
  refine qN [] 1000 ⟨[(0, .sub 1000000 t158 x1 x2), (1, .d t66 x3), (2, .d t12 x4), (7, .d t12 (wrapI .u64 (Int.tdiv o44 (1000000000 : Int)))), (9, .d t2 x8), (11, .d t12 (wrapI .u64 ((Int.tmod o44 (1000000000 : Int)) + x6))), (14, .d t2 x7), (15, .d t2 x8)], [(1000000, .vec 158 t158 x9)]⟩ (aC (show ((1000000000 : Int) ≠ 0) from (by decide)) aN) ?_
  refine qN [] 1100 ⟨[(0, .sub 1000000 t158 x1 x2), (1, .d t66 x3), (2, .d t12 x4), (7, .d t12 (wrapI .u64 (Int.tdiv o44 (1000000000 : Int)))), (8, .d t12 (0 : Int)), (9, .d t2 x8), (11, .d t12 (wrapI .u64 ((Int.tmod o44 (1000000000 : Int)) + x6))), (14, .d t2 x7), (15, .d t2 x8)], [(1000000, .vec 158 t158 x9)]⟩ aN ?_
  obtain ⟨g_0, h⟩ := gd_elim h
  obtain ⟨g_1, h⟩ := gd_elim h
  obtain ⟨g_2, h⟩ := gd_elim h
  refine qN [] 1200 ⟨[(0, .sub 1000000 t158 x1 x2), (1, .d t66 x3), (2, .d t12 x4), (7, .d t12 (wrapI .u64 (Int.tdiv o44 (1000000000 : Int)))), (8, .d t12 (0 : Int)), (9, .d t2 x8), (11, .d t12 (wrapI .u64 ((Int.tmod o44 (1000000000 : Int)) + x6))), (12, .d t12 (wrapI .u64 (List.getD x9 (x1 + toN x8) (0 : Int)))), (14, .d t2 x7), (15, .d t2 x8)], [(1000000, .vec 158 t158 x9)]⟩ (aC g_0 (aC g_1 (aC g_2 aN))) ?_
  refine Run.sq ?_
  refine qN [] 1300 ⟨[(0, .sub 1000000 t158 x1 x2), (1, .d t66 x3), (2, .d t12 x4), (7, .d t12 (wrapI .u64 (Int.tdiv o44 (1000000000 : Int)))), (8, .d t12 (0 : Int)), (9, .d t2 x8), (11, .d t12 (wrapI .u64 ((Int.tmod o44 (1000000000 : Int)) + x6))), (12, .d t12 (wrapI .u64 (List.getD x9 (x1 + toN x8) (0 : Int)))), (14, .d t2 x7), (15, .d t2 x8), (45, .d t4 (decide ((wrapI .u64 (List.getD x9 (x1 + toN x8) (0 : Int))) < (wrapI .u64 ((Int.tmod o44 (1000000000 : Int)) + x6)))))], [(1000000, .vec 158 t158 x9)]⟩ aN ?_
  obtain ⟨o57, h_o57, h⟩ := bnd_elim h
  refine Run.mono (f195s0_c2_ok x1 x2 x3 x4 (wrapI .u64 (Int.tdiv o44 (1000000000 : Int))) (0 : Int) x8 (wrapI .u64 ((Int.tmod o44 (1000000000 : Int)) + x6)) (wrapI .u64 (List.getD x9 (x1 + toN x8) (0 : Int))) x7 (decide ((wrapI .u64 (List.getD x9 (x1 + toN x8) (0 : Int))) < (wrapI .u64 ((Int.tmod o44 (1000000000 : Int)) + x6)))) x9 h_o57) ?_
  rintro _ _ ⟨rfl, rfl⟩
  show Run Pg 62 _ _ _
  obtain ⟨g_0, h⟩ := gd_elim h
  obtain ⟨g_1, h⟩ := gd_elim h
  obtain ⟨g_2, h⟩ := gd_elim h
  refine qE [] 1500 ⟨[(0, .sub 1000000 t158 x1 x2), (1, .d t66 x3), (2, .d t12 x4), (7, .d t12 (wrapI .u64 (Int.tdiv o44 (1000000000 : Int)))), (8, .d t12 o57.1), (14, .d t2 x7), (15, .d t2 x8)], [(1000000, .vec 158 t158 (List.set x9 (x1 + toN x8) (wrapI .u32 (wrapI .u64 (o57.2 - (wrapI .u64 ((Int.tmod o44 (1000000000 : Int)) + x6)))))))]⟩ (aC g_0 (aC g_1 (aC g_2 aN))) ?_
  show Run Pg 62 _ _ _
  refine qE [] 1600 ⟨[(0, .sub 1000000 t158 x1 x2), (1, .d t66 x3), (2, .d t12 x4), (7, .d t12 (wrapI .u64 (Int.tdiv o44 (1000000000 : Int)))), (8, .d t12 o57.1), (14, .d t2 x7), (15, .d t2 (wrapI .i64 (x8 + (1 : Int))))], [(1000000, .vec 158 t158 (List.set x9 (x1 + toN x8) (wrapI .u32 (wrapI .u64 (o57.2 - (wrapI .u64 ((Int.tmod o44 (1000000000 : Int)) + x6)))))))]⟩ aN ?_
  exact ⟨m, Nat.lt_succ_self m, _, _, _, _, rfl, h⟩
 ·replace h := bif_f h hb
  refine qK ⟨[(7, .d t12 x5), (8, .d t12 x6)], [(1000000, .vec 158 t158 x9)]⟩ ?_
  refine Run.ex 0 ?_
  obtain rfl := sI h
  exact ⟨rfl, by kernel_rfl⟩
def F195s0 (a0 : Nat) (a1 : Nat) (a2 : List Int) (a3 : Int) (a4 : List Int) : Option IntL :=
 ((f195s0_l0 a0 a1 a2 a3 (ofN a1) (2 + List.length a2 + List.length a4) ((0 : Int), (0 : Int), (0 : Int), a4)).bind fun o58 =>
 (bif (decide ((0 : Int) < o58.2.1)) then
 some (true, o58.2.2)
 else
 some ((decide ((0 : Int) < o58.1)), o58.2.2)))
theorem c195s0 {a0 : Nat} {a1 : Nat} {a2 : List Int} {a3 : Int} {a4 : List Int} {r : IntL} (h : F195s0 a0 a1 a2 a3 a4 = some r) : CallSt Pg 195 [(.sub 1000000 t158 a0 a1), (.d t66 a2), (.d t12 a3)] [(1000000, .vec 158 t158 a4)] (.d t4 r.1) [(1000000, .vec 158 t158 r.2)] := by
 refine callStN hX c_195 62 [.tmp 6] [4] Go.Proofs.Tryz.func195 (by kernel_rfl) (by kernel_rfl) (by kernel_rfl) (Nat.le_of_ble_eq_true rfl) rfl ?_
 show Run Pg 62 c_195 ⟨[(0, .sub 1000000 t158 a0 a1), (1, .d t66 a2), (2, .d t12 a3)], [(1000000, .vec 158 t158 a4)]⟩ (fin195s0 a4 r)
 unfold F195s0 at h
 refine qN [] 100 ⟨[(0, .sub 1000000 t158 a0 a1), (1, .d t66 a2), (2, .d t12 a3)], [(1000000, .vec 158 t158 a4)]⟩ aN ?_
 refine qN [] 200 ⟨[(0, .sub 1000000 t158 a0 a1), (1, .d t66 a2), (2, .d t12 a3), (7, .d t12 (0 : Int)), (8, .d t12 (0 : Int))], [(1000000, .vec 158 t158 a4)]⟩ aN ?_
 refine Run.sq ?_
 refine qN [] 300 ⟨[(0, .sub 1000000 t158 a0 a1), (1, .d t66 a2), (2, .d t12 a3), (7, .d t12 (0 : Int)), (8, .d t12 (0 : Int)), (14, .d t2 (ofN a1)), (15, .d t2 (0 : Int))], [(1000000, .vec 158 t158 a4)]⟩ aN ?_
 refine Run.bl 0 ?_
 obtain ⟨o58, h_o58, h⟩ := bnd_elim h
 refine Run.mono (f195s0_l0_ok a0 a1 a2 a3 (ofN a1) _ (0 : Int) (0 : Int) (0 : Int) a4 h_o58) ?_
 rintro _ _ ⟨rfl, rfl⟩
 show Run Pg 62 _ _ _
 rcases bif_elim h with ⟨hb0, h⟩ | ⟨hb0, h⟩
 ·refine qN [(2, .b true)] 1700 ⟨[(6, .d t4 true)], [(1000000, .vec 158 t158 o58.2.2)]⟩ (aC hb0 aN) ?_
  refine Run.rt ?_
  obtain rfl := sI h
  exact ⟨[(.d t4 true)], ⟨[], [(1000000, .vec 158 t158 o58.2.2)]⟩, by kernel_rfl, by kernel_rfl, by kernel_rfl, by kernel_rfl⟩
 ·refine qN [(2, .b false)] 1700 ⟨[(6, .d t4 (decide ((0 : Int) < o58.1)))], [(1000000, .vec 158 t158 o58.2.2)]⟩ (aC hb0 aN) ?_
  refine Run.rt ?_
  obtain rfl := sI h
  exact ⟨[(.d t4 (decide ((0 : Int) < o58.1)))], ⟨[], [(1000000, .vec 158 t158 o58.2.2)]⟩, by kernel_rfl, by kernel_rfl, by kernel_rfl, by kernel_rfl⟩

/-! ## f196 -/
noncomputable def c_196 : Code := body0 Go.Proofs.Tryz.f196
def fin196s0 (a3 : List Int) (r : (List Int)) : Ex → St → Prop := endS X0 [] [] (.tup .vnil) [(1000000, .vec 158 t158 r)]
def f196s0_c1_post (x27 : Nat) (x28 : Nat) (x29 : List Int) (x30 : Int) (x31 : Int) (x32 : Int) (x33 : Bool) (x34 : List Int) : (Int) → Ex → St → Prop
 | o, x, s => x = .nrm ∧ s = ⟨[(0, .sub 1000000 t158 x27 x28), (1, .d t66 x29), (5, .d t2 x30), (6, .d t158 o), (8, .d t2 x32), (9, .d t2 x30)], [(1000000, .vec 158 t158 x34)]⟩
def f196s0_c1 (x29 : List Int) (x30 : Int) (x31 : Int) (x33 : Bool) : Option (Int) :=
 (bif x33 then
 gd (0 ≤ x30) <|
 gd (x30 < ((List.length x29 : Nat) : Int)) <|
 some (wrapI .u32 (x31 + (List.getD x29 (toN x30) (0 : Int))))
 else
 some x31)
theorem f196s0_c1_ok (x27 : Nat) (x28 : Nat) (x29 : List Int) (x30 : Int) (x31 : Int) (x32 : Int) (x33 : Bool) (x34 : List Int) {out : (Int)} (h : f196s0_c1 x29 x30 x31 x33 = some out) : Run Pg 37 (sq2 (sq1 (sq2 (sq2 (bk1 (sq1 (sq2 (sq2 (lp1 (bk1 (sq2 (sq2 c_196)))))))))))) ⟨[(0, .sub 1000000 t158 x27 x28), (1, .d t66 x29), (5, .d t2 x30), (6, .d t158 x31), (8, .d t2 x32), (9, .d t2 x30), (21, .d t4 x33)], [(1000000, .vec 158 t158 x34)]⟩ (f196s0_c1_post x27 x28 x29 x30 x31 x32 x33 x34 out) := by
 unfold f196s0_c1 at h
 refine Run.cd x33 (fun hb => ?_) (fun hb => ?_)
 ·replace h := bif_t h hb
  obtain ⟨g_0, h⟩ := gd_elim h
  obtain ⟨g_1, h⟩ := gd_elim h
  refine qE [] 700 ⟨[(0, .sub 1000000 t158 x27 x28), (1, .d t66 x29), (5, .d t2 x30), (6, .d t158 (wrapI .u32 (x31 + (List.getD x29 (toN x30) (0 : Int))))), (8, .d t2 x32), (9, .d t2 x30)], [(1000000, .vec 158 t158 x34)]⟩ (aC g_0 (aC g_1 aN)) ?_
  obtain rfl := sI h
  exact ⟨rfl, by kernel_rfl⟩
 ·replace h := bif_f h hb
  refine qK ⟨[(0, .sub 1000000 t158 x27 x28), (1, .d t66 x29), (5, .d t2 x30), (6, .d t158 x31), (8, .d t2 x32), (9, .d t2 x30)], [(1000000, .vec 158 t158 x34)]⟩ ?_
  refine Run.sk ?_
  obtain rfl := sI h
  exact ⟨rfl, by kernel_rfl⟩
def f196s0_c2_post (x36 : Nat) (x37 : Nat) (x38 : List Int) (x39 : Int) (x40 : Int) (x41 : Int) (x42 : Int) (x43 : Bool) (x44 : List Int) : (Int × Int) → Ex → St → Prop
 | o, x, s => x = .nrm ∧ s = ⟨[(0, .sub 1000000 t158 x36 x37), (1, .d t66 x38), (4, .d t158 o.1), (5, .d t2 x40), (6, .d t158 o.2), (8, .d t2 x42), (9, .d t2 x40)], [(1000000, .vec 158 t158 x44)]⟩
def f196s0_c2 (x39 : Int) (x41 : Int) (x43 : Bool) : Option (Int × Int) :=
 (bif x43 then
 some ((1 : Int), (wrapI .u32 (x41 - (1000000000 : Int))))
 else
 some (x39, x41))
theorem f196s0_c2_ok (x36 : Nat) (x37 : Nat) (x38 : List Int) (x39 : Int) (x40 : Int) (x41 : Int) (x42 : Int) (x43 : Bool) (x44 : List Int) {out : (Int × Int)} (h : f196s0_c2 x39 x41 x43 = some out) : Run Pg 37 (sq2 (sq1 (sq2 (sq2 (sq2 (sq2 (bk1 (sq1 (sq2 (sq2 (lp1 (bk1 (sq2 (sq2 c_196)))))))))))))) ⟨[(0, .sub 1000000 t158 x36 x37), (1, .d t66 x38), (4, .d t158 x39), (5, .d t2 x40), (6, .d t158 x41), (8, .d t2 x42), (9, .d t2 x40), (29, .d t4 x43)], [(1000000, .vec 158 t158 x44)]⟩ (f196s0_c2_post x36 x37 x38 x39 x40 x41 x42 x43 x44 out) := by
 unfold f196s0_c2 at h
 refine Run.cd x43 (fun hb => ?_) (fun hb => ?_)
 ·replace h := bif_t h hb
  refine qE [] 1000 ⟨[(0, .sub 1000000 t158 x36 x37), (1, .d t66 x38), (4, .d t158 (1 : Int)), (5, .d t2 x40), (6, .d t158 (wrapI .u32 (x41 - (1000000000 : Int)))), (8, .d t2 x42), (9, .d t2 x40)], [(1000000, .vec 158 t158 x44)]⟩ aN ?_
  obtain rfl := sI h
  exact ⟨rfl, by kernel_rfl⟩
 ·replace h := bif_f h hb
  refine qK ⟨[(0, .sub 1000000 t158 x36 x37), (1, .d t66 x38), (4, .d t158 x39), (5, .d t2 x40), (6, .d t158 x41), (8, .d t2 x42), (9, .d t2 x40)], [(1000000, .vec 158 t158 x44)]⟩ ?_
  refine Run.sk ?_
  obtain rfl := sI h
  exact ⟨rfl, by kernel_rfl⟩
def f196s0_l0_post (x1 : Nat) (x2 : Nat) (x3 : List Int) (x5 : Int) : ((List Int)) → Ex → St → Prop
 | o, x, s => x = .out 0 ∧ s = ⟨[], [(1000000, .vec 158 t158 o)]⟩
def f196s0_l0_b (x1 : Nat) (x2 : Nat) (x3 : List Int) (x5 : Int) (again : Int × Int × (List Int) → Option ((List Int))) : Int × Int × (List Int) → Option ((List Int))
 | (x4, x6, x7) =>
 (bif (decide (x6 < x5)) then
 gd (0 ≤ x6) <|
 gd (x6 < ((x2 : Nat) : Int)) <|
 gd ((x1 + toN x6) < List.length x7) <|
 ((f196s0_c1 x3 x6 (wrapI .u32 ((List.getD x7 (x1 + toN x6) (0 : Int)) + x4)) (decide (x6 < (ofN (List.length x3))))).bind fun o35 =>
 ((f196s0_c2 (0 : Int) o35 (decide ((1000000000 : Int) ≤ o35))).bind fun o45 =>
 gd (0 ≤ x6) <|
 gd (x6 < ((x2 : Nat) : Int)) <|
 gd ((x1 + toN x6) < List.length x7) <|
 again (o45.1, (wrapI .i64 (x6 + (1 : Int))), (List.set x7 (x1 + toN x6) o45.2))))
 else
 some x7)
def f196s0_l0 (x1 : Nat) (x2 : Nat) (x3 : List Int) (x5 : Int) : Nat → Int × Int × (List Int) → Option ((List Int)) := loopF (f196s0_l0_b x1 x2 x3 x5)
theorem f196s0_l0_ok (x1 : Nat) (x2 : Nat) (x3 : List Int) (x5 : Int) (k : Nat) (x4 : Int) (x6 : Int) (x7 : List Int) {out : ((List Int))} (h : f196s0_l0 x1 x2 x3 x5 k (x4, x6, x7) = some out) : Run Pg 37 (bk1 (sq2 (sq2 c_196))) ⟨[(0, .sub 1000000 t158 x1 x2), (1, .d t66 x3), (4, .d t158 x4), (8, .d t2 x5), (9, .d t2 x6)], [(1000000, .vec 158 t158 x7)]⟩ (f196s0_l0_post x1 x2 x3 x5 out) := by
 refine Run.loopN (by kernel_rfl) (fun m s => ∃ x4 x6 x7, s = ⟨[(0, .sub 1000000 t158 x1 x2), (1, .d t66 x3), (4, .d t158 x4), (8, .d t2 x5), (9, .d t2 x6)], [(1000000, .vec 158 t158 x7)]⟩ ∧ f196s0_l0 x1 x2 x3 x5 m (x4, x6, x7) = some out) ?_ k ⟨x4, x6, x7,  rfl, h⟩
 rintro m s ⟨x4, x6, x7,  rfl, h⟩
 cases m with
 | zero => cases h
 | succ m =>
 replace h : f196s0_l0_b x1 x2 x3 x5 (f196s0_l0 x1 x2 x3 x5 m) (x4, x6, x7) = some out := h
 unfold f196s0_l0_b at h
 refine qN [] 300 ⟨[(0, .sub 1000000 t158 x1 x2), (1, .d t66 x3), (4, .d t158 x4), (8, .d t2 x5), (9, .d t2 x6), (10, .d t4 (decide (x6 < x5)))], [(1000000, .vec 158 t158 x7)]⟩ aN ?_
 refine Run.sq ?_
 refine Run.cd (decide (x6 < x5)) (fun hb => ?_) (fun hb => ?_)
 ·replace h := bif_t h hb
  refine Run.sk ?_
  show Run Pg 37 _ _ _
  refine Run.sq ?_
  refine Run.bl 1 ?_
  refine qN [] 400 ⟨[(0, .sub 1000000 t158 x1 x2), (1, .d t66 x3), (4, .d t158 x4), (5, .d t2 x6), (8, .d t2 x5), (9, .d t2 x6)], [(1000000, .vec 158 t158 x7)]⟩ aN ?_
  obtain ⟨g_0, h⟩ := gd_elim h
  obtain ⟨g_1, h⟩ := gd_elim h
  obtain ⟨g_2, h⟩ := gd_elim h
  refine qN [] 500 ⟨[(0, .sub 1000000 t158 x1 x2), (1, .d t66 x3), (5, .d t2 x6), (6, .d t158 (wrapI .u32 ((List.getD x7 (x1 + toN x6) (0 : Int)) + x4))), (8, .d t2 x5), (9, .d t2 x6)], [(1000000, .vec 158 t158 x7)]⟩ (aC g_0 (aC g_1 (aC g_2 aN))) ?_
  refine Run.sq ?_
  refine qN [] 600 ⟨[(0, .sub 1000000 t158 x1 x2), (1, .d t66 x3), (5, .d t2 x6), (6, .d t158 (wrapI .u32 ((List.getD x7 (x1 + toN x6) (0 : Int)) + x4))), (8, .d t2 x5), (9, .d t2 x6), (21, .d t4 (decide (x6 < (ofN (List.length x3)))))], [(1000000, .vec 158 t158 x7)]⟩ aN ?_
  obtain ⟨o35, h_o35, h⟩ := bnd_elim h
  refine Run.mono (f196s0_c1_ok x1 x2 x3 x6 (wrapI .u32 ((List.getD x7 (x1 + toN x6) (0 : Int)) + x4)) x5 (decide (x6 < (ofN (List.length x3)))) x7 h_o35) ?_
  rintro _ _ ⟨rfl, rfl⟩
  show Run Pg 37 _ _ _
  refine qN [] 800 ⟨[(0, .sub 1000000 t158 x1 x2), (1, .d t66 x3), (4, .d t158 (0 : Int)), (5, .d t2 x6), (6, .d t158 o35), (8, .d t2 x5), (9, .d t2 x6)], [(1000000, .vec 158 t158 x7)]⟩ aN ?_
  refine Run.sq ?_
  refine qN [] 900 ⟨[(0, .sub 1000000 t158 x1 x2), (1, .d t66 x3), (4, .d t158 (0 : Int)), (5, .d t2 x6), (6, .d t158 o35), (8, .d t2 x5), (9, .d t2 x6), (29, .d t4 (decide ((1000000000 : Int) ≤ o35)))], [(1000000, .vec 158 t158 x7)]⟩ aN ?_
  obtain ⟨o45, h_o45, h⟩ := bnd_elim h
  refine Run.mono (f196s0_c2_ok x1 x2 x3 (0 : Int) x6 o35 x5 (decide ((1000000000 : Int) ≤ o35)) x7 h_o45) ?_
  rintro _ _ ⟨rfl, rfl⟩
  show Run Pg 37 _ _ _
  obtain ⟨g_0, h⟩ := gd_elim h
  obtain ⟨g_1, h⟩ := gd_elim h
  obtain ⟨g_2, h⟩ := gd_elim h
  refine qE [] 1100 ⟨[(0, .sub 1000000 t158 x1 x2), (1, .d t66 x3), (4, .d t158 o45.1), (8, .d t2 x5), (9, .d t2 x6)], [(1000000, .vec 158 t158 (List.set x7 (x1 + toN x6) o45.2))]⟩ (aC g_0 (aC g_1 (aC g_2 aN))) ?_
  show Run Pg 37 _ _ _
  refine qE [] 1200 ⟨[(0, .sub 1000000 t158 x1 x2), (1, .d t66 x3), (4, .d t158 o45.1), (8, .d t2 x5), (9, .d t2 (wrapI .i64 (x6 + (1 : Int))))], [(1000000, .vec 158 t158 (List.set x7 (x1 + toN x6) o45.2))]⟩ aN ?_
  exact ⟨m, Nat.lt_succ_self m, _, _, _, rfl, h⟩
 ·replace h := bif_f h hb
  refine qK ⟨[], [(1000000, .vec 158 t158 x7)]⟩ ?_
  refine Run.ex 0 ?_
  obtain rfl := sI h
  exact ⟨rfl, by kernel_rfl⟩
def F196s0 (a0 : Nat) (a1 : Nat) (a2 : List Int) (a3 : List Int) : Option ((List Int)) :=
 ((f196s0_l0 a0 a1 a2 (ofN a1) (2 + List.length a2 + List.length a3) ((0 : Int), (0 : Int), a3)).bind fun o46 =>
 some o46)
theorem c196s0 {a0 : Nat} {a1 : Nat} {a2 : List Int} {a3 : List Int} {r : (List Int)} (h : F196s0 a0 a1 a2 a3 = some r) : CallSt Pg 196 [(.sub 1000000 t158 a0 a1), (.d t66 a2)] [(1000000, .vec 158 t158 a3)] (.tup .vnil) [(1000000, .vec 158 t158 r)] := by
 refine callStN hX c_196 37 [] [] Go.Proofs.Tryz.func196 (by kernel_rfl) (by kernel_rfl) (by kernel_rfl) (Nat.le_of_ble_eq_true rfl) rfl ?_
 show Run Pg 37 c_196 ⟨[(0, .sub 1000000 t158 a0 a1), (1, .d t66 a2)], [(1000000, .vec 158 t158 a3)]⟩ (fin196s0 a3 r)
 unfold F196s0 at h
 refine qN [] 100 ⟨[(0, .sub 1000000 t158 a0 a1), (1, .d t66 a2), (4, .d t158 (0 : Int))], [(1000000, .vec 158 t158 a3)]⟩ aN ?_
 refine qN [] 200 ⟨[(0, .sub 1000000 t158 a0 a1), (1, .d t66 a2), (4, .d t158 (0 : Int)), (8, .d t2 (ofN a1)), (9, .d t2 (0 : Int))], [(1000000, .vec 158 t158 a3)]⟩ aN ?_
 refine Run.bl 0 ?_
 obtain ⟨o46, h_o46, h⟩ := bnd_elim h
 refine Run.mono (f196s0_l0_ok a0 a1 a2 (ofN a1) _ (0 : Int) (0 : Int) a3 h_o46) ?_
 rintro _ _ ⟨rfl, rfl⟩
 obtain rfl := sI h
 exact ⟨[], ⟨[], [(1000000, .vec 158 t158 o46)]⟩, by kernel_rfl, by kernel_rfl, by kernel_rfl, by kernel_rfl⟩

/-! ## f157 -/
noncomputable def c_157 : Code := body0 Go.Proofs.Tryz.f157
def fin157 (r : (List Int) × (List Int)) : Ex → St → Prop := endK X0 [.tmp 4, .tmp 5] [66, 66] (.tup (.vcons (.d t66 r.1) (.vcons (.d t66 r.2) .vnil)))
def f157_l1_post (x35 : Int) (x36 : Int) (x37 : List Int) (x38 : Int) (x41 : List Int) (x42 : List Int) : (Int) → Ex → St → Prop
 | o, x, s => x = .out 2 ∧ s = ⟨[(6, .d t2 x35), (7, .d t158 x36), (8, .vec 903 t158), (9, .d t66 x37), (10, .vec 1104 t158), (11, .d t2 x38), (13, .d t12 o)], [(903, .vec 158 t158 x41), (1104, .vec 158 t158 x42)]⟩
def f157_l1_b (x35 : Int) (x37 : List Int) (x38 : Int) (x41 : List Int) (again : Int × Int → Option (Int)) : Int × Int → Option (Int)
 | (x39, x40) =>
 (bif (decide ((1000000000 : Int) ≤ x39)) then
 gd (0 ≤ (wrapI .i64 (x35 - (1 : Int)))) <|
 gd ((wrapI .i64 (x35 - (1 : Int))) < ((List.length x37 : Nat) : Int)) <|
 (bif (decide ((1000000000 : Int) ≤ (wrapI .u64 (x40 + (wrapI .u64 (List.getD x37 (toN (wrapI .i64 (x35 - (1 : Int)))) (0 : Int))))))) then
 some (wrapI .u64 (x39 - (1 : Int)))
 else
 again ((wrapI .u64 (x39 - (1 : Int))), (wrapI .u64 (x40 + (wrapI .u64 (List.getD x37 (toN (wrapI .i64 (x35 - (1 : Int)))) (0 : Int)))))))
 else
 gd (0 ≤ (wrapI .i64 (x35 - (2 : Int)))) <|
 gd ((wrapI .i64 (x35 - (2 : Int))) < ((List.length x37 : Nat) : Int)) <|
 gd (0 ≤ (wrapI .i64 ((wrapI .i64 (x38 + x35)) - (2 : Int)))) <|
 gd ((wrapI .i64 ((wrapI .i64 (x38 + x35)) - (2 : Int))) < ((List.length x41 : Nat) : Int)) <|
 gd ((toN (wrapI .i64 ((wrapI .i64 (x38 + x35)) - (2 : Int)))) < List.length x41) <|
 (bif (decide ((wrapI .u64 ((wrapI .u64 (x40 * (1000000000 : Int))) + (wrapI .u64 (List.getD x41 (toN (wrapI .i64 ((wrapI .i64 (x38 + x35)) - (2 : Int)))) (0 : Int))))) < (wrapI .u64 (x39 * (wrapI .u64 (List.getD x37 (toN (wrapI .i64 (x35 - (2 : Int)))) (0 : Int))))))) then
 gd (0 ≤ (wrapI .i64 (x35 - (1 : Int)))) <|
 gd ((wrapI .i64 (x35 - (1 : Int))) < ((List.length x37 : Nat) : Int)) <|
 (bif (decide ((1000000000 : Int) ≤ (wrapI .u64 (x40 + (wrapI .u64 (List.getD x37 (toN (wrapI .i64 (x35 - (1 : Int)))) (0 : Int))))))) then
 some (wrapI .u64 (x39 - (1 : Int)))
 else
 again ((wrapI .u64 (x39 - (1 : Int))), (wrapI .u64 (x40 + (wrapI .u64 (List.getD x37 (toN (wrapI .i64 (x35 - (1 : Int)))) (0 : Int)))))))
 else
 some x39))
def f157_l1 (x35 : Int) (x37 : List Int) (x38 : Int) (x41 : List Int) : Nat → Int × Int → Option (Int) := loopF (f157_l1_b x35 x37 x38 x41)
theorem f157_l1_ok (x35 : Int) (x36 : Int) (x37 : List Int) (x38 : Int) (x41 : List Int) (x42 : List Int) (k : Nat) (x39 : Int) (x40 : Int) {out : (Int)} (h : f157_l1 x35 x37 x38 x41 k (x39, x40) = some out) : Run Pg 179 (bk1 (sq1 (sq2 (sq2 (bk1 (sq1 (sq2 (lp1 (bk1 (sq2 (sq1 (sq2 (sq2 (sq2 (sq2 (sq2 (sq2 (sq2 (sq2 (sq2 c_157)))))))))))))))))))) ⟨[(6, .d t2 x35), (7, .d t158 x36), (8, .vec 903 t158), (9, .d t66 x37), (10, .vec 1104 t158), (11, .d t2 x38), (13, .d t12 x39), (14, .d t12 x40)], [(903, .vec 158 t158 x41), (1104, .vec 158 t158 x42)]⟩ (f157_l1_post x35 x36 x37 x38 x41 x42 out) := by
 refine Run.loopN (by kernel_rfl) (fun m s => ∃ x39 x40, s = ⟨[(6, .d t2 x35), (7, .d t158 x36), (8, .vec 903 t158), (9, .d t66 x37), (10, .vec 1104 t158), (11, .d t2 x38), (13, .d t12 x39), (14, .d t12 x40)], [(903, .vec 158 t158 x41), (1104, .vec 158 t158 x42)]⟩ ∧ f157_l1 x35 x37 x38 x41 m (x39, x40) = some out) ?_ k ⟨x39, x40,  rfl, h⟩
 rintro m s ⟨x39, x40,  rfl, h⟩
 cases m with
 | zero => cases h
 | succ m =>
 replace h : f157_l1_b x35 x37 x38 x41 (f157_l1 x35 x37 x38 x41 m) (x39, x40) = some out := h
 unfold f157_l1_b at h
 refine Run.sq ?_
 rcases bif_elim h with ⟨hb0, h⟩ | ⟨hb0, h⟩
 ·refine qN [(2, .b true)] 1700 ⟨[(6, .d t2 x35), (7, .d t158 x36), (8, .vec 903 t158), (9, .d t66 x37), (10, .vec 1104 t158), (11, .d t2 x38), (13, .d t12 x39), (14, .d t12 x40), (129, .d t4 true)], [(903, .vec 158 t158 x41), (1104, .vec 158 t158 x42)]⟩ (aC hb0 aN) ?_
  refine Run.cd true (fun hb => ?_) (fun hb => (by cases hb))
  refine Run.sk ?_
  show Run Pg 179 _ _ _
  refine Run.bl 3 ?_
  refine qN [] 1800 ⟨[(6, .d t2 x35), (7, .d t158 x36), (8, .vec 903 t158), (9, .d t66 x37), (10, .vec 1104 t158), (11, .d t2 x38), (13, .d t12 (wrapI .u64 (x39 - (1 : Int)))), (14, .d t12 x40)], [(903, .vec 158 t158 x41), (1104, .vec 158 t158 x42)]⟩ aN ?_
  obtain ⟨g_0, h⟩ := gd_elim h
  obtain ⟨g_1, h⟩ := gd_elim h
  refine qN [] 1900 ⟨[(6, .d t2 x35), (7, .d t158 x36), (8, .vec 903 t158), (9, .d t66 x37), (10, .vec 1104 t158), (11, .d t2 x38), (13, .d t12 (wrapI .u64 (x39 - (1 : Int)))), (14, .d t12 (wrapI .u64 (x40 + (wrapI .u64 (List.getD x37 (toN (wrapI .i64 (x35 - (1 : Int)))) (0 : Int))))))], [(903, .vec 158 t158 x41), (1104, .vec 158 t158 x42)]⟩ (aC g_0 (aC g_1 aN)) ?_
  refine qN [] 2000 ⟨[(6, .d t2 x35), (7, .d t158 x36), (8, .vec 903 t158), (9, .d t66 x37), (10, .vec 1104 t158), (11, .d t2 x38), (13, .d t12 (wrapI .u64 (x39 - (1 : Int)))), (14, .d t12 (wrapI .u64 (x40 + (wrapI .u64 (List.getD x37 (toN (wrapI .i64 (x35 - (1 : Int)))) (0 : Int)))))), (141, .d t4 (decide ((1000000000 : Int) ≤ (wrapI .u64 (x40 + (wrapI .u64 (List.getD x37 (toN (wrapI .i64 (x35 - (1 : Int)))) (0 : Int))))))))], [(903, .vec 158 t158 x41), (1104, .vec 158 t158 x42)]⟩ aN ?_
  refine Run.cd (decide ((1000000000 : Int) ≤ (wrapI .u64 (x40 + (wrapI .u64 (List.getD x37 (toN (wrapI .i64 (x35 - (1 : Int)))) (0 : Int))))))) (fun hb => ?_) (fun hb => ?_)
  ·replace h := bif_t h hb
   refine qK ⟨[(6, .d t2 x35), (7, .d t158 x36), (8, .vec 903 t158), (9, .d t66 x37), (10, .vec 1104 t158), (11, .d t2 x38), (13, .d t12 (wrapI .u64 (x39 - (1 : Int))))], [(903, .vec 158 t158 x41), (1104, .vec 158 t158 x42)]⟩ ?_
   refine Run.ex 2 ?_
   obtain rfl := sI h
   exact ⟨rfl, by kernel_rfl⟩
  ·replace h := bif_f h hb
   refine qK ⟨[(6, .d t2 x35), (7, .d t158 x36), (8, .vec 903 t158), (9, .d t66 x37), (10, .vec 1104 t158), (11, .d t2 x38), (13, .d t12 (wrapI .u64 (x39 - (1 : Int)))), (14, .d t12 (wrapI .u64 (x40 + (wrapI .u64 (List.getD x37 (toN (wrapI .i64 (x35 - (1 : Int)))) (0 : Int))))))], [(903, .vec 158 t158 x41), (1104, .vec 158 t158 x42)]⟩ ?_
   refine Run.sk ?_
   exact ⟨m, Nat.lt_succ_self m, _, _, rfl, h⟩
 ·obtain ⟨g_1, h⟩ := gd_elim h
  obtain ⟨g_2, h⟩ := gd_elim h
  obtain ⟨g_3, h⟩ := gd_elim h
  obtain ⟨g_4, h⟩ := gd_elim h
  obtain ⟨g_5, h⟩ := gd_elim h
  refine qN [(2, .b false)] 1700 ⟨[(6, .d t2 x35), (7, .d t158 x36), (8, .vec 903 t158), (9, .d t66 x37), (10, .vec 1104 t158), (11, .d t2 x38), (13, .d t12 x39), (14, .d t12 x40), (129, .d t4 (decide ((wrapI .u64 ((wrapI .u64 (x40 * (1000000000 : Int))) + (wrapI .u64 (List.getD x41 (toN (wrapI .i64 ((wrapI .i64 (x38 + x35)) - (2 : Int)))) (0 : Int))))) < (wrapI .u64 (x39 * (wrapI .u64 (List.getD x37 (toN (wrapI .i64 (x35 - (2 : Int)))) (0 : Int))))))))], [(903, .vec 158 t158 x41), (1104, .vec 158 t158 x42)]⟩ (aC hb0 (aC g_1 (aC g_2 (aC g_3 (aC g_4 (aC g_5 aN)))))) ?_
  refine Run.cd (decide ((wrapI .u64 ((wrapI .u64 (x40 * (1000000000 : Int))) + (wrapI .u64 (List.getD x41 (toN (wrapI .i64 ((wrapI .i64 (x38 + x35)) - (2 : Int)))) (0 : Int))))) < (wrapI .u64 (x39 * (wrapI .u64 (List.getD x37 (toN (wrapI .i64 (x35 - (2 : Int)))) (0 : Int))))))) (fun hb => ?_) (fun hb => ?_)
  ·replace h := bif_t h hb
   refine Run.sk ?_
   show Run Pg 179 _ _ _
   refine Run.bl 3 ?_
   refine qN [] 1800 ⟨[(6, .d t2 x35), (7, .d t158 x36), (8, .vec 903 t158), (9, .d t66 x37), (10, .vec 1104 t158), (11, .d t2 x38), (13, .d t12 (wrapI .u64 (x39 - (1 : Int)))), (14, .d t12 x40)], [(903, .vec 158 t158 x41), (1104, .vec 158 t158 x42)]⟩ aN ?_
   obtain ⟨g_0, h⟩ := gd_elim h
   obtain ⟨g_1, h⟩ := gd_elim h
   refine qN [] 1900 ⟨[(6, .d t2 x35), (7, .d t158 x36), (8, .vec 903 t158), (9, .d t66 x37), (10, .vec 1104 t158), (11, .d t2 x38), (13, .d t12 (wrapI .u64 (x39 - (1 : Int)))), (14, .d t12 (wrapI .u64 (x40 + (wrapI .u64 (List.getD x37 (toN (wrapI .i64 (x35 - (1 : Int)))) (0 : Int))))))], [(903, .vec 158 t158 x41), (1104, .vec 158 t158 x42)]⟩ (aC g_0 (aC g_1 aN)) ?_
   refine qN [] 2000 ⟨[(6, .d t2 x35), (7, .d t158 x36), (8, .vec 903 t158), (9, .d t66 x37), (10, .vec 1104 t158), (11, .d t2 x38), (13, .d t12 (wrapI .u64 (x39 - (1 : Int)))), (14, .d t12 (wrapI .u64 (x40 + (wrapI .u64 (List.getD x37 (toN (wrapI .i64 (x35 - (1 : Int)))) (0 : Int)))))), (141, .d t4 (decide ((1000000000 : Int) ≤ (wrapI .u64 (x40 + (wrapI .u64 (List.getD x37 (toN (wrapI .i64 (x35 - (1 : Int)))) (0 : Int))))))))], [(903, .vec 158 t158 x41), (1104, .vec 158 t158 x42)]⟩ aN ?_
   refine Run.cd (decide ((1000000000 : Int) ≤ (wrapI .u64 (x40 + (wrapI .u64 (List.getD x37 (toN (wrapI .i64 (x35 - (1 : Int)))) (0 : Int))))))) (fun hb => ?_) (fun hb => ?_)
   ·replace h := bif_t h hb
    refine qK ⟨[(6, .d t2 x35), (7, .d t158 x36), (8, .vec 903 t158), (9, .d t66 x37), (10, .vec 1104 t158), (11, .d t2 x38), (13, .d t12 (wrapI .u64 (x39 - (1 : Int))))], [(903, .vec 158 t158 x41), (1104, .vec 158 t158 x42)]⟩ ?_
    refine Run.ex 2 ?_
    obtain rfl := sI h
    exact ⟨rfl, by kernel_rfl⟩
   ·replace h := bif_f h hb
    refine qK ⟨[(6, .d t2 x35), (7, .d t158 x36), (8, .vec 903 t158), (9, .d t66 x37), (10, .vec 1104 t158), (11, .d t2 x38), (13, .d t12 (wrapI .u64 (x39 - (1 : Int)))), (14, .d t12 (wrapI .u64 (x40 + (wrapI .u64 (List.getD x37 (toN (wrapI .i64 (x35 - (1 : Int)))) (0 : Int))))))], [(903, .vec 158 t158 x41), (1104, .vec 158 t158 x42)]⟩ ?_
    refine Run.sk ?_
    exact ⟨m, Nat.lt_succ_self m, _, _, rfl, h⟩
  ·replace h := bif_f h hb
   refine qK ⟨[(6, .d t2 x35), (7, .d t158 x36), (8, .vec 903 t158), (9, .d t66 x37), (10, .vec 1104 t158), (11, .d t2 x38), (13, .d t12 x39)], [(903, .vec 158 t158 x41), (1104, .vec 158 t158 x42)]⟩ ?_
   refine Run.ex 2 ?_
   obtain rfl := sI h
   exact ⟨rfl, by kernel_rfl⟩
def f157_c2_post (x45 : Int) (x46 : Int) (x47 : List Int) (x48 : Int) (x49 : Int) (x50 : Bool) (x51 : List Int) (x52 : List Int) : (Int × (List Int)) → Ex → St → Prop
 | o, x, s => x = .nrm ∧ s = ⟨[(6, .d t2 x45), (7, .d t158 x46), (8, .vec 903 t158), (9, .d t66 x47), (10, .vec 1104 t158), (11, .d t2 x48), (13, .d t12 o.1)], [(903, .vec 158 t158 o.2), (1104, .vec 158 t158 x52)]⟩
def f157_c2 (x45 : Int) (x47 : List Int) (x48 : Int) (x49 : Int) (x50 : Bool) (x51 : List Int) : Option (Int × (List Int)) :=
 (bif x50 then
 gd (0 < List.length x51) <|
 gd (0 ≤ x48) <|
 gd (x48 ≤ (wrapI .i64 ((wrapI .i64 (x48 + x45)) + (1 : Int)))) <|
 gd ((wrapI .i64 ((wrapI .i64 (x48 + x45)) + (1 : Int))) ≤ ((List.length x51 : Nat) : Int)) <|
 (F196s0 (Int.toNat x48) ((Int.toNat (wrapI .i64 ((wrapI .i64 (x48 + x45)) + (1 : Int)))) - (Int.toNat x48)) x47 x51).bind fun y54 =>
 some ((wrapI .u64 (x49 - (1 : Int))), y54)
 else
 some (x49, x51))
theorem f157_c2_ok (x45 : Int) (x46 : Int) (x47 : List Int) (x48 : Int) (x49 : Int) (x50 : Bool) (x51 : List Int) (x52 : List Int) {out : (Int × (List Int))} (h : f157_c2 x45 x47 x48 x49 x50 x51 = some out) : Run Pg 179 (sq2 (sq1 (sq2 (sq2 (sq2 (bk1 (sq1 (sq2 (lp1 (bk1 (sq2 (sq1 (sq2 (sq2 (sq2 (sq2 (sq2 (sq2 (sq2 (sq2 (sq2 c_157))))))))))))))))))))) ⟨[(6, .d t2 x45), (7, .d t158 x46), (8, .vec 903 t158), (9, .d t66 x47), (10, .vec 1104 t158), (11, .d t2 x48), (13, .d t12 x49), (151, .d t4 x50)], [(903, .vec 158 t158 x51), (1104, .vec 158 t158 x52)]⟩ (f157_c2_post x45 x46 x47 x48 x49 x50 x51 x52 out) := by
 unfold f157_c2 at h
 refine Run.cd x50 (fun hb => ?_) (fun hb => ?_)
 ·replace h := bif_t h hb
  refine qN [] 2200 ⟨[(6, .d t2 x45), (7, .d t158 x46), (8, .vec 903 t158), (9, .d t66 x47), (10, .vec 1104 t158), (11, .d t2 x48), (13, .d t12 (wrapI .u64 (x49 - (1 : Int))))], [(903, .vec 158 t158 x51), (1104, .vec 158 t158 x52)]⟩ aN ?_
  obtain ⟨g_0, h⟩ := gd_elim h
  obtain ⟨g_1, h⟩ := gd_elim h
  obtain ⟨g_2, h⟩ := gd_elim h
  obtain ⟨g_3, h⟩ := gd_elim h
  obtain ⟨y54, h_y54, h⟩ := bnd_elim h
  refine qE [(8, .callS [(1000000, .vec 158 t158 x51)] [(.sub 1000000 t158 (Int.toNat x48) ((Int.toNat (wrapI .i64 ((wrapI .i64 (x48 + x45)) + (1 : Int)))) - (Int.toNat x48))), (.d t66 x47)] [(1000000, 903)] (.tup .vnil) [(1000000, .vec 158 t158 y54)])] 2300 ⟨[(6, .d t2 x45), (7, .d t158 x46), (8, .vec 903 t158), (9, .d t66 x47), (10, .vec 1104 t158), (11, .d t2 x48), (13, .d t12 (wrapI .u64 (x49 - (1 : Int))))], [(903, .vec 158 t158 y54), (1104, .vec 158 t158 x52)]⟩ (aC g_0 (aC g_1 (aC g_2 (aC g_3 (aC (show (([(.sub 903 t158 (Int.toNat x48) ((Int.toNat (wrapI .i64 ((wrapI .i64 (x48 + x45)) + (1 : Int)))) - (Int.toNat x48))), (.d t66 x47)] : List V) = List.map (V.ren (renL [(1000000, 903)] 2308)) [(.sub 1000000 t158 (Int.toNat x48) ((Int.toNat (wrapI .i64 ((wrapI .i64 (x48 + x45)) + (1 : Int)))) - (Int.toNat x48))), (.d t66 x47)]) from (by kernel_rfl)) (aC (c196s0 h_y54) (aC (show ((some (.vec 158 t158 x51) : Option E) = some (E.ren (renL [(1000000, 903)] 2308) (.vec 158 t158 x51))) from (by kernel_rfl)) aN))))))) ?_
  obtain rfl := sI h
  exact ⟨rfl, by kernel_rfl⟩
 ·replace h := bif_f h hb
  refine qK ⟨[(6, .d t2 x45), (7, .d t158 x46), (8, .vec 903 t158), (9, .d t66 x47), (10, .vec 1104 t158), (11, .d t2 x48), (13, .d t12 x49)], [(903, .vec 158 t158 x51), (1104, .vec 158 t158 x52)]⟩ ?_
  refine Run.sk ?_
  obtain rfl := sI h
  exact ⟨rfl, by kernel_rfl⟩
def f157_l0_post (x8 : Int) (x9 : Int) (x10 : List Int) : ((List Int) × (List Int)) → Ex → St → Prop
 | o, x, s => x = .out 0 ∧ s = ⟨[(6, .d t2 x8), (7, .d t158 x9), (8, .vec 903 t158), (10, .vec 1104 t158)], [(903, .vec 158 t158 o.1), (1104, .vec 158 t158 o.2)]⟩
def f157_l0_b (x8 : Int) (x10 : List Int) (again : Int × (List Int) × (List Int) → Option ((List Int) × (List Int))) : Int × (List Int) × (List Int) → Option ((List Int) × (List Int))
 | (x11, x12, x13) =>
 (bif (decide ((0 : Int) ≤ x11)) then
 gd (0 ≤ (wrapI .i64 (x11 + x8))) <|
 gd ((wrapI .i64 (x11 + x8)) < ((List.length x12 : Nat) : Int)) <|
 gd ((toN (wrapI .i64 (x11 + x8))) < List.length x12) <|
 gd (0 ≤ (wrapI .i64 ((wrapI .i64 (x11 + x8)) - (1 : Int)))) <|
 gd ((wrapI .i64 ((wrapI .i64 (x11 + x8)) - (1 : Int))) < ((List.length x12 : Nat) : Int)) <|
 gd ((toN (wrapI .i64 ((wrapI .i64 (x11 + x8)) - (1 : Int)))) < List.length x12) <|
 gd (0 ≤ (wrapI .i64 (x8 - (1 : Int)))) <|
 gd ((wrapI .i64 (x8 - (1 : Int))) < ((List.length x10 : Nat) : Int)) <|
 gd ((wrapI .u64 (List.getD x10 (toN (wrapI .i64 (x8 - (1 : Int)))) (0 : Int))) ≠ 0) <|
 gd (0 ≤ (wrapI .i64 (x8 - (1 : Int)))) <|
 gd ((wrapI .i64 (x8 - (1 : Int))) < ((List.length x10 : Nat) : Int)) <|
 gd ((wrapI .u64 (List.getD x10 (toN (wrapI .i64 (x8 - (1 : Int)))) (0 : Int))) ≠ 0) <|
 ((f157_l1 x8 x10 x11 x12 (2 + List.length x10 + List.length x12 + List.length x13) ((wrapI .u64 (Int.tdiv (wrapI .u64 ((wrapI .u64 ((wrapI .u64 (List.getD x12 (toN (wrapI .i64 (x11 + x8))) (0 : Int))) * (1000000000 : Int))) + (wrapI .u64 (List.getD x12 (toN (wrapI .i64 ((wrapI .i64 (x11 + x8)) - (1 : Int)))) (0 : Int))))) (wrapI .u64 (List.getD x10 (toN (wrapI .i64 (x8 - (1 : Int)))) (0 : Int))))), (Int.tmod (wrapI .u64 ((wrapI .u64 ((wrapI .u64 (List.getD x12 (toN (wrapI .i64 (x11 + x8))) (0 : Int))) * (1000000000 : Int))) + (wrapI .u64 (List.getD x12 (toN (wrapI .i64 ((wrapI .i64 (x11 + x8)) - (1 : Int)))) (0 : Int))))) (wrapI .u64 (List.getD x10 (toN (wrapI .i64 (x8 - (1 : Int)))) (0 : Int)))))).bind fun o43 =>
 gd (0 < List.length x12) <|
 gd (0 ≤ x11) <|
 gd (x11 ≤ (wrapI .i64 ((wrapI .i64 (x11 + x8)) + (1 : Int)))) <|
 gd ((wrapI .i64 ((wrapI .i64 (x11 + x8)) + (1 : Int))) ≤ ((List.length x12 : Nat) : Int)) <|
 (F195s0 (Int.toNat x11) ((Int.toNat (wrapI .i64 ((wrapI .i64 (x11 + x8)) + (1 : Int)))) - (Int.toNat x11)) x10 o43 x12).bind fun y44 =>
 ((f157_c2 x8 x10 x11 o43 y44.1 y44.2).bind fun o55 =>
 gd (0 ≤ x11) <|
 gd (x11 < ((List.length x13 : Nat) : Int)) <|
 gd ((toN x11) < List.length x13) <|
 again ((wrapI .i64 (x11 - (1 : Int))), o55.2, (List.set x13 (toN x11) (wrapI .u32 o55.1)))))
 else
 some (x12, x13))
def f157_l0 (x8 : Int) (x10 : List Int) : Nat → Int × (List Int) × (List Int) → Option ((List Int) × (List Int)) := loopF (f157_l0_b x8 x10)
theorem f157_l0_ok (x8 : Int) (x9 : Int) (x10 : List Int) (k : Nat) (x11 : Int) (x12 : List Int) (x13 : List Int) {out : ((List Int) × (List Int))} (h : f157_l0 x8 x10 k (x11, x12, x13) = some out) : Run Pg 179 (bk1 (sq2 (sq1 (sq2 (sq2 (sq2 (sq2 (sq2 (sq2 (sq2 (sq2 (sq2 c_157)))))))))))) ⟨[(6, .d t2 x8), (7, .d t158 x9), (8, .vec 903 t158), (9, .d t66 x10), (10, .vec 1104 t158), (11, .d t2 x11)], [(903, .vec 158 t158 x12), (1104, .vec 158 t158 x13)]⟩ (f157_l0_post x8 x9 x10 out) := by
 refine Run.loopN (by kernel_rfl) (fun m s => ∃ x11 x12 x13, s = ⟨[(6, .d t2 x8), (7, .d t158 x9), (8, .vec 903 t158), (9, .d t66 x10), (10, .vec 1104 t158), (11, .d t2 x11)], [(903, .vec 158 t158 x12), (1104, .vec 158 t158 x13)]⟩ ∧ f157_l0 x8 x10 m (x11, x12, x13) = some out) ?_ k ⟨x11, x12, x13,  rfl, h⟩
 rintro m s ⟨x11, x12, x13,  rfl, h⟩
 cases m with
 | zero => cases h
 | succ m =>
 replace h : f157_l0_b x8 x10 (f157_l0 x8 x10 m) (x11, x12, x13) = some out := h
 unfold f157_l0_b at h
 refine Run.sq ?_
 refine qN [] 1300 ⟨[(6, .d t2 x8), (7, .d t158 x9), (8, .vec 903 t158), (9, .d t66 x10), (10, .vec 1104 t158), (11, .d t2 x11), (70, .d t4 (decide ((0 : Int) ≤ x11)))], [(903, .vec 158 t158 x12), (1104, .vec 158 t158 x13)]⟩ aN ?_
 refine Run.cd (decide ((0 : Int) ≤ x11)) (fun hb => ?_) (fun hb => ?_)
 ·replace h := bif_t h hb
  refine Run.sk ?_
  show Run Pg 179 _ _ _
  refine Run.sq ?_
  refine Run.bl 1 ?_
  obtain ⟨g_0, h⟩ := gd_elim h
  obtain ⟨g_1, h⟩ := gd_elim h
  obtain ⟨g_2, h⟩ := gd_elim h
  obtain ⟨g_3, h⟩ := gd_elim h
  obtain ⟨g_4, h⟩ := gd_elim h
  obtain ⟨g_5, h⟩ := gd_elim h
  refine qN [] 1500 ⟨[(6, .d t2 x8), (7, .d t158 x9), (8, .vec 903 t158), (9, .d t66 x10), (10, .vec 1104 t158), (11, .d t2 x11), (12, .d t12 (wrapI .u64 ((wrapI .u64 ((wrapI .u64 (List.getD x12 (toN (wrapI .i64 (x11 + x8))) (0 : Int))) * (1000000000 : Int))) + (wrapI .u64 (List.getD x12 (toN (wrapI .i64 ((wrapI .i64 (x11 + x8)) - (1 : Int)))) (0 : Int))))))], [(903, .vec 158 t158 x12), (1104, .vec 158 t158 x13)]⟩ (aC g_0 (aC g_1 (aC g_2 (aC g_3 (aC g_4 (aC g_5 aN)))))) ?_
  obtain ⟨g_0, h⟩ := gd_elim h
  obtain ⟨g_1, h⟩ := gd_elim h
  obtain ⟨g_2, h⟩ := gd_elim h
  obtain ⟨g_3, h⟩ := gd_elim h
  obtain ⟨g_4, h⟩ := gd_elim h
  obtain ⟨g_5, h⟩ := gd_elim h
  refine qN [] 1600 ⟨[(6, .d t2 x8), (7, .d t158 x9), (8, .vec 903 t158), (9, .d t66 x10), (10, .vec 1104 t158), (11, .d t2 x11), (13, .d t12 (wrapI .u64 (Int.tdiv (wrapI .u64 ((wrapI .u64 ((wrapI .u64 (List.getD x12 (toN (wrapI .i64 (x11 + x8))) (0 : Int))) * (1000000000 : Int))) + (wrapI .u64 (List.getD x12 (toN (wrapI .i64 ((wrapI .i64 (x11 + x8)) - (1 : Int)))) (0 : Int))))) (wrapI .u64 (List.getD x10 (toN (wrapI .i64 (x8 - (1 : Int)))) (0 : Int)))))), (14, .d t12 (Int.tmod (wrapI .u64 ((wrapI .u64 ((wrapI .u64 (List.getD x12 (toN (wrapI .i64 (x11 + x8))) (0 : Int))) * (1000000000 : Int))) + (wrapI .u64 (List.getD x12 (toN (wrapI .i64 ((wrapI .i64 (x11 + x8)) - (1 : Int)))) (0 : Int))))) (wrapI .u64 (List.getD x10 (toN (wrapI .i64 (x8 - (1 : Int)))) (0 : Int)))))], [(903, .vec 158 t158 x12), (1104, .vec 158 t158 x13)]⟩ (aC g_0 (aC g_1 (aC g_2 (aC g_3 (aC g_4 (aC g_5 aN)))))) ?_
  refine Run.sq ?_
  refine Run.bl 2 ?_
  obtain ⟨o43, h_o43, h⟩ := bnd_elim h
  refine Run.mono (f157_l1_ok x8 x9 x10 x11 x12 x13 _ (wrapI .u64 (Int.tdiv (wrapI .u64 ((wrapI .u64 ((wrapI .u64 (List.getD x12 (toN (wrapI .i64 (x11 + x8))) (0 : Int))) * (1000000000 : Int))) + (wrapI .u64 (List.getD x12 (toN (wrapI .i64 ((wrapI .i64 (x11 + x8)) - (1 : Int)))) (0 : Int))))) (wrapI .u64 (List.getD x10 (toN (wrapI .i64 (x8 - (1 : Int)))) (0 : Int))))) (Int.tmod (wrapI .u64 ((wrapI .u64 ((wrapI .u64 (List.getD x12 (toN (wrapI .i64 (x11 + x8))) (0 : Int))) * (1000000000 : Int))) + (wrapI .u64 (List.getD x12 (toN (wrapI .i64 ((wrapI .i64 (x11 + x8)) - (1 : Int)))) (0 : Int))))) (wrapI .u64 (List.getD x10 (toN (wrapI .i64 (x8 - (1 : Int)))) (0 : Int)))) h_o43) ?_
  rintro _ _ ⟨rfl, rfl⟩
  show Run Pg 179 _ _ _
  refine Run.sq ?_
  obtain ⟨g_0, h⟩ := gd_elim h
  obtain ⟨g_1, h⟩ := gd_elim h
  obtain ⟨g_2, h⟩ := gd_elim h
  obtain ⟨g_3, h⟩ := gd_elim h
  obtain ⟨y44, h_y44, h⟩ := bnd_elim h
  refine qN [(9, .callS [(1000000, .vec 158 t158 x12)] [(.sub 1000000 t158 (Int.toNat x11) ((Int.toNat (wrapI .i64 ((wrapI .i64 (x11 + x8)) + (1 : Int)))) - (Int.toNat x11))), (.d t66 x10), (.d t12 o43)] [(1000000, 903)] (.d t4 y44.1) [(1000000, .vec 158 t158 y44.2)])] 2100 ⟨[(6, .d t2 x8), (7, .d t158 x9), (8, .vec 903 t158), (9, .d t66 x10), (10, .vec 1104 t158), (11, .d t2 x11), (13, .d t12 o43), (151, .d t4 y44.1)], [(903, .vec 158 t158 y44.2), (1104, .vec 158 t158 x13)]⟩ (aC g_0 (aC g_1 (aC g_2 (aC g_3 (aC (show (([(.sub 903 t158 (Int.toNat x11) ((Int.toNat (wrapI .i64 ((wrapI .i64 (x11 + x8)) + (1 : Int)))) - (Int.toNat x11))), (.d t66 x10), (.d t12 o43)] : List V) = List.map (V.ren (renL [(1000000, 903)] 2109)) [(.sub 1000000 t158 (Int.toNat x11) ((Int.toNat (wrapI .i64 ((wrapI .i64 (x11 + x8)) + (1 : Int)))) - (Int.toNat x11))), (.d t66 x10), (.d t12 o43)]) from (by kernel_rfl)) (aC (c195s0 h_y44) (aC (show ((some (.vec 158 t158 x12) : Option E) = some (E.ren (renL [(1000000, 903)] 2109) (.vec 158 t158 x12))) from (by kernel_rfl)) aN))))))) ?_
  obtain ⟨o55, h_o55, h⟩ := bnd_elim h
  refine Run.mono (f157_c2_ok x8 x9 x10 x11 o43 y44.1 y44.2 x13 h_o55) ?_
  rintro _ _ ⟨rfl, rfl⟩
  show Run Pg 179 _ _ _
  obtain ⟨g_0, h⟩ := gd_elim h
  obtain ⟨g_1, h⟩ := gd_elim h
  obtain ⟨g_2, h⟩ := gd_elim h
  refine qE [] 2400 ⟨[(6, .d t2 x8), (7, .d t158 x9), (8, .vec 903 t158), (9, .d t66 x10), (10, .vec 1104 t158), (11, .d t2 x11)], [(903, .vec 158 t158 o55.2), (1104, .vec 158 t158 (List.set x13 (toN x11) (wrapI .u32 o55.1)))]⟩ (aC g_0 (aC g_1 (aC g_2 aN))) ?_
  show Run Pg 179 _ _ _
  refine qE [] 1400 ⟨[(6, .d t2 x8), (7, .d t158 x9), (8, .vec 903 t158), (9, .d t66 x10), (10, .vec 1104 t158), (11, .d t2 (wrapI .i64 (x11 - (1 : Int))))], [(903, .vec 158 t158 o55.2), (1104, .vec 158 t158 (List.set x13 (toN x11) (wrapI .u32 o55.1)))]⟩ aN ?_
  exact ⟨m, Nat.lt_succ_self m, _, _, _, rfl, h⟩
 ·replace h := bif_f h hb
  refine qK ⟨[(6, .d t2 x8), (7, .d t158 x9), (8, .vec 903 t158), (10, .vec 1104 t158)], [(903, .vec 158 t158 x12), (1104, .vec 158 t158 x13)]⟩ ?_
  refine Run.ex 0 ?_
  obtain rfl := sI h
  exact ⟨rfl, by kernel_rfl⟩
def F157 (a0 : List Int) (a1 : List Int) : Option ((List Int) × (List Int)) :=
 (F159 a0).bind fun y1 =>
 (F159 a1).bind fun y2 =>
 (bif ((ofN (List.length y2)) == (1 : Int)) then
 gd ((0 : Int) < ((List.length y2 : Nat) : Int)) <|
 (F194 y1 (List.getD y2 (toN (0 : Int)) (0 : Int))).bind fun y3 =>
 some (y3.1, y3.2)
 else
 (F114 y1 y2).bind fun y4 =>
 (bif (decide (y4 < (0 : Int))) then
 gd (List.length y1 ≤ 1073741824) <|
 some (([] : List Int), y1)
 else
 gd (0 ≤ (wrapI .i64 ((ofN (List.length y2)) - (1 : Int)))) <|
 gd ((wrapI .i64 ((ofN (List.length y2)) - (1 : Int))) < ((List.length y2 : Nat) : Int)) <|
 gd ((wrapI .u64 ((wrapI .u64 (List.getD y2 (toN (wrapI .i64 ((ofN (List.length y2)) - (1 : Int)))) (0 : Int))) + (1 : Int))) ≠ 0) <|
 (F112o y1 ([(wrapI .u32 (wrapI .u64 (Int.tdiv (1000000000 : Int) (wrapI .u64 ((wrapI .u64 (List.getD y2 (toN (wrapI .i64 ((ofN (List.length y2)) - (1 : Int)))) (0 : Int))) + (1 : Int))))))] : List Int)).bind fun y5 =>
 gd (List.length (y5 ++ ([(0 : Int)] : List Int)) ≤ 1073741824) <|
 (F112 y2 ([(wrapI .u32 (wrapI .u64 (Int.tdiv (1000000000 : Int) (wrapI .u64 ((wrapI .u64 (List.getD y2 (toN (wrapI .i64 ((ofN (List.length y2)) - (1 : Int)))) (0 : Int))) + (1 : Int))))))] : List Int)).bind fun y6 =>
 (F159 y6).bind fun y7 =>
 gd (0 ≤ (wrapI .i64 ((ofN (List.length (y5 ++ ([(0 : Int)] : List Int)))) - (ofN (List.length y2))))) <|
 gd ((wrapI .i64 ((ofN (List.length (y5 ++ ([(0 : Int)] : List Int)))) - (ofN (List.length y2)))) ≤ (wrapI .i64 ((ofN (List.length (y5 ++ ([(0 : Int)] : List Int)))) - (ofN (List.length y2))))) <|
 gd ((wrapI .i64 ((ofN (List.length (y5 ++ ([(0 : Int)] : List Int)))) - (ofN (List.length y2)))) ≤ 1073741824) <|
 ((f157_l0 (ofN (List.length y2)) y7 (2 + List.length y7 + List.length (y5 ++ ([(0 : Int)] : List Int)) + List.length (List.replicate (toN (wrapI .i64 ((ofN (List.length (y5 ++ ([(0 : Int)] : List Int)))) - (ofN (List.length y2))))) (0 : Int))) ((wrapI .i64 ((wrapI .i64 ((ofN (List.length (y5 ++ ([(0 : Int)] : List Int)))) - (ofN (List.length y2)))) - (1 : Int))), (y5 ++ ([(0 : Int)] : List Int)), (List.replicate (toN (wrapI .i64 ((ofN (List.length (y5 ++ ([(0 : Int)] : List Int)))) - (ofN (List.length y2))))) (0 : Int)))).bind fun o56 =>
 gd (0 ≤ (ofN (List.length y2))) <|
 gd ((ofN (List.length y2)) ≤ ((List.length o56.1 : Nat) : Int)) <|
 (F159 (List.take (Int.toNat (ofN (List.length y2))) o56.1)).bind fun y57 =>
 (F194 y57 (wrapI .u32 (wrapI .u64 (Int.tdiv (1000000000 : Int) (wrapI .u64 ((wrapI .u64 (List.getD y2 (toN (wrapI .i64 ((ofN (List.length y2)) - (1 : Int)))) (0 : Int))) + (1 : Int))))))).bind fun y58 =>
 some (o56.2, y58.1))))
theorem c157 {a0 : List Int} {a1 : List Int} {r : (List Int) × (List Int)} (h : F157 a0 a1 = some r) : CallPure Pg 157 [(.d t66 a0), (.d t66 a1)] (.tup (.vcons (.d t66 r.1) (.vcons (.d t66 r.2) .vnil))) := by
 refine qC c_157 179 [.tmp 4, .tmp 5] [66, 66] Go.Proofs.Tryz.func157 ?_
 show Run Pg 179 c_157 ⟨[(0, .d t66 a0), (1, .d t66 a1)], []⟩ (fin157 r)
 unfold F157 at h
 refine qN [] 100 ⟨[(0, .d t66 a0), (1, .d t66 a1)], []⟩ aN ?_
 obtain ⟨y1, h_y1, h⟩ := bnd_elim h
 obtain ⟨y2, h_y2, h⟩ := bnd_elim h
 refine qN [(1, .call (.d t66 y1)), (3, .call (.d t66 y2))] 200 ⟨[(0, .d t66 y1), (1, .d t66 y2)], []⟩ (aC (c159 h_y1) (aC (c159 h_y2) aN)) ?_
 refine Run.sq ?_
 refine qN [] 300 ⟨[(0, .d t66 y1), (1, .d t66 y2), (23, .d t4 ((ofN (List.length y2)) == (1 : Int)))], []⟩ aN ?_
 refine Run.cd ((ofN (List.length y2)) == (1 : Int)) (fun hb => ?_) (fun hb => ?_)
 ·replace h := bif_t h hb
  obtain ⟨g_1, h⟩ := gd_elim h
  obtain ⟨y3, h_y3, h⟩ := bnd_elim h
  refine qN [(4, .call (.tup (.vcons (.d t66 y3.1) (.vcons (.d t66 y3.2) .vnil))))] 400 ⟨[(4, .d t66 y3.1), (5, .d t66 y3.2)], []⟩ (aC (show (0 ≤ (0 : Int)) from (by decide)) (aC g_1 (aC (c194 h_y3) aN))) ?_
  refine Run.rt ?_
  obtain rfl := sI h
  exact qR [(.d t66 y3.1), (.d t66 y3.2)]
 ·replace h := bif_f h hb
  refine Run.sk ?_
  show Run Pg 179 _ _ _
  refine Run.sq ?_
  obtain ⟨y4, h_y4, h⟩ := bnd_elim h
  refine qN [(2, .call (.d t2 y4))] 500 ⟨[(0, .d t66 y1), (1, .d t66 y2), (34, .d t4 (decide (y4 < (0 : Int))))], []⟩ (aC (c114 h_y4) aN) ?_
  refine Run.cd (decide (y4 < (0 : Int))) (fun hb => ?_) (fun hb => ?_)
  ·replace h := bif_t h hb
   obtain ⟨g_0, h⟩ := gd_elim h
   refine qN [] 600 ⟨[(4, .nil), (5, .d t66 y1)], []⟩ (aC g_0 aN) ?_
   refine Run.rt ?_
   obtain rfl := sI h
   exact qR [(.d t66 ([] : List Int)), (.d t66 y1)]
  ·replace h := bif_f h hb
   refine Run.sk ?_
   show Run Pg 179 _ _ _
   refine qN [] 700 ⟨[(0, .d t66 y1), (1, .d t66 y2), (6, .d t2 (ofN (List.length y2)))], []⟩ aN ?_
   obtain ⟨g_0, h⟩ := gd_elim h
   obtain ⟨g_1, h⟩ := gd_elim h
   obtain ⟨g_2, h⟩ := gd_elim h
   refine qN [] 800 ⟨[(0, .d t66 y1), (1, .d t66 y2), (6, .d t2 (ofN (List.length y2))), (7, .d t158 (wrapI .u32 (wrapI .u64 (Int.tdiv (1000000000 : Int) (wrapI .u64 ((wrapI .u64 (List.getD y2 (toN (wrapI .i64 ((ofN (List.length y2)) - (1 : Int)))) (0 : Int))) + (1 : Int)))))))], []⟩ (aC g_0 (aC g_1 (aC g_2 aN))) ?_
   obtain ⟨y5, h_y5, h⟩ := bnd_elim h
   obtain ⟨g_1, h⟩ := gd_elim h
   refine qN [(3, .callO 158 t158 y5)] 900 ⟨[(1, .d t66 y2), (6, .d t2 (ofN (List.length y2))), (7, .d t158 (wrapI .u32 (wrapI .u64 (Int.tdiv (1000000000 : Int) (wrapI .u64 ((wrapI .u64 (List.getD y2 (toN (wrapI .i64 ((ofN (List.length y2)) - (1 : Int)))) (0 : Int))) + (1 : Int))))))), (8, .vec 903 t158)], [(903, .vec 158 t158 (y5 ++ ([(0 : Int)] : List Int)))]⟩ (aC (c112o h_y5) (aC g_1 aN)) ?_
   obtain ⟨y6, h_y6, h⟩ := bnd_elim h
   obtain ⟨y7, h_y7, h⟩ := bnd_elim h
   refine qN [(3, .call (.d t66 y6)), (4, .call (.d t66 y7))] 1000 ⟨[(6, .d t2 (ofN (List.length y2))), (7, .d t158 (wrapI .u32 (wrapI .u64 (Int.tdiv (1000000000 : Int) (wrapI .u64 ((wrapI .u64 (List.getD y2 (toN (wrapI .i64 ((ofN (List.length y2)) - (1 : Int)))) (0 : Int))) + (1 : Int))))))), (8, .vec 903 t158), (9, .d t66 y7)], [(903, .vec 158 t158 (y5 ++ ([(0 : Int)] : List Int)))]⟩ (aC (c112 h_y6) (aC (c159 h_y7) aN)) ?_
   obtain ⟨g_0, h⟩ := gd_elim h
   obtain ⟨g_1, h⟩ := gd_elim h
   obtain ⟨g_2, h⟩ := gd_elim h
   refine qN [] 1100 ⟨[(6, .d t2 (ofN (List.length y2))), (7, .d t158 (wrapI .u32 (wrapI .u64 (Int.tdiv (1000000000 : Int) (wrapI .u64 ((wrapI .u64 (List.getD y2 (toN (wrapI .i64 ((ofN (List.length y2)) - (1 : Int)))) (0 : Int))) + (1 : Int))))))), (8, .vec 903 t158), (9, .d t66 y7), (10, .vec 1104 t158)], [(903, .vec 158 t158 (y5 ++ ([(0 : Int)] : List Int))), (1104, .vec 158 t158 (List.replicate (toN (wrapI .i64 ((ofN (List.length (y5 ++ ([(0 : Int)] : List Int)))) - (ofN (List.length y2))))) (0 : Int)))]⟩ (aC g_0 (aC g_1 (aC g_2 aN))) ?_
   refine Run.sq ?_
   refine qN [] 1200 ⟨[(6, .d t2 (ofN (List.length y2))), (7, .d t158 (wrapI .u32 (wrapI .u64 (Int.tdiv (1000000000 : Int) (wrapI .u64 ((wrapI .u64 (List.getD y2 (toN (wrapI .i64 ((ofN (List.length y2)) - (1 : Int)))) (0 : Int))) + (1 : Int))))))), (8, .vec 903 t158), (9, .d t66 y7), (10, .vec 1104 t158), (11, .d t2 (wrapI .i64 ((wrapI .i64 ((ofN (List.length (y5 ++ ([(0 : Int)] : List Int)))) - (ofN (List.length y2)))) - (1 : Int))))], [(903, .vec 158 t158 (y5 ++ ([(0 : Int)] : List Int))), (1104, .vec 158 t158 (List.replicate (toN (wrapI .i64 ((ofN (List.length (y5 ++ ([(0 : Int)] : List Int)))) - (ofN (List.length y2))))) (0 : Int)))]⟩ aN ?_
   refine Run.bl 0 ?_
   obtain ⟨o56, h_o56, h⟩ := bnd_elim h
   refine Run.mono (f157_l0_ok (ofN (List.length y2)) (wrapI .u32 (wrapI .u64 (Int.tdiv (1000000000 : Int) (wrapI .u64 ((wrapI .u64 (List.getD y2 (toN (wrapI .i64 ((ofN (List.length y2)) - (1 : Int)))) (0 : Int))) + (1 : Int)))))) y7 _ (wrapI .i64 ((wrapI .i64 ((ofN (List.length (y5 ++ ([(0 : Int)] : List Int)))) - (ofN (List.length y2)))) - (1 : Int))) (y5 ++ ([(0 : Int)] : List Int)) (List.replicate (toN (wrapI .i64 ((ofN (List.length (y5 ++ ([(0 : Int)] : List Int)))) - (ofN (List.length y2))))) (0 : Int)) h_o56) ?_
   rintro _ _ ⟨rfl, rfl⟩
   show Run Pg 179 _ _ _
   refine Run.freeze (s' := ⟨[(6, .d t2 (ofN (List.length y2))), (7, .d t158 (wrapI .u32 (wrapI .u64 (Int.tdiv (1000000000 : Int) (wrapI .u64 ((wrapI .u64 (List.getD y2 (toN (wrapI .i64 ((ofN (List.length y2)) - (1 : Int)))) (0 : Int))) + (1 : Int))))))), (8, .d t66 o56.1), (10, .vec 1104 t158)], [(1104, .vec 158 t158 o56.2)]⟩) 903 (by kernel_rfl) ?_
   obtain ⟨g_0, h⟩ := gd_elim h
   obtain ⟨g_1, h⟩ := gd_elim h
   obtain ⟨y57, h_y57, h⟩ := bnd_elim h
   obtain ⟨y58, h_y58, h⟩ := bnd_elim h
   refine qN [(3, .call (.d t66 y57)), (5, .call (.tup (.vcons (.d t66 y58.1) (.vcons (.d t66 y58.2) .vnil))))] 2500 ⟨[(10, .vec 1104 t158), (15, .d t66 y58.1)], [(1104, .vec 158 t158 o56.2)]⟩ (aC g_0 (aC g_1 (aC (c159 h_y57) (aC (c194 h_y58) aN)))) ?_
   refine qN [] 2600 ⟨[(4, .vec 1104 t158), (5, .d t66 y58.1)], [(1104, .vec 158 t158 o56.2)]⟩ aN ?_
   refine Run.freeze (s' := ⟨[(4, .d t66 o56.2), (5, .d t66 y58.1)], []⟩) 1104 (by kernel_rfl) ?_
   refine Run.rt ?_
   obtain rfl := sI h
   exact qR [(.d t66 o56.2), (.d t66 y58.1)]

/-! ## f110 -/
noncomputable def c_110 : Code := body0 Go.Proofs.Tryz.f110
def fin110 (r : IntL) : Ex → St → Prop := endK X0 [.cell 4 68] [68] (.d t67 r)
def f110_l1_post (x22 : IntL) : (Int) → Ex → St → Prop
 | o, x, s => x = .out 2 ∧ s = ⟨[(4, .ptr 102 0), (7, .d t12 o)], [(102, bx 68 t67 x22)]⟩
def f110_l1_b  (again : Int × Int → Option (Int)) : Int × Int → Option (Int)
 | (x20, x21) =>
 (bif (decide ((0 : Int) < x21)) then
 gd (x21 ≠ 0) <|
 again (x21, (Int.tmod x20 x21))
 else
 some x20)
def f110_l1  : Nat → Int × Int → Option (Int) := loopF (f110_l1_b )
theorem f110_l1_ok (x22 : IntL) (k : Nat) (x20 : Int) (x21 : Int) {out : (Int)} (h : f110_l1  k (x20, x21) = some out) : Run Pg 61 (bk1 (sq1 (cd1 (sq2 (sq1 (sq2 (sq2 (bk1 (sq2 (lp1 (bk1 (sq1 (sq2 (sq2 c_110)))))))))))))) ⟨[(4, .ptr 102 0), (7, .d t12 x20), (9, .d t12 x21)], [(102, bx 68 t67 x22)]⟩ (f110_l1_post x22 out) := by
 refine Run.loopN (by kernel_rfl) (fun m s => ∃ x20 x21, s = ⟨[(4, .ptr 102 0), (7, .d t12 x20), (9, .d t12 x21)], [(102, bx 68 t67 x22)]⟩ ∧ f110_l1  m (x20, x21) = some out) ?_ k ⟨x20, x21,  rfl, h⟩
 rintro m s ⟨x20, x21,  rfl, h⟩
 cases m with
 | zero => cases h
 | succ m =>
 replace h : f110_l1_b  (f110_l1  m) (x20, x21) = some out := h
 unfold f110_l1_b at h
 refine Run.sq ?_
 refine qN [] 700 ⟨[(4, .ptr 102 0), (7, .d t12 x20), (9, .d t12 x21), (38, .d t4 (decide ((0 : Int) < x21)))], [(102, bx 68 t67 x22)]⟩ aN ?_
 refine Run.cd (decide ((0 : Int) < x21)) (fun hb => ?_) (fun hb => ?_)
 ·replace h := bif_t h hb
  refine Run.sk ?_
  show Run Pg 61 _ _ _
  refine Run.bl 3 ?_
  obtain ⟨g_0, h⟩ := gd_elim h
  refine qE [] 800 ⟨[(4, .ptr 102 0), (7, .d t12 x21), (9, .d t12 (Int.tmod x20 x21))], [(102, bx 68 t67 x22)]⟩ (aC g_0 aN) ?_
  exact ⟨m, Nat.lt_succ_self m, _, _, rfl, h⟩
 ·replace h := bif_f h hb
  refine qK ⟨[(4, .ptr 102 0), (7, .d t12 x20)], [(102, bx 68 t67 x22)]⟩ ?_
  refine Run.ex 2 ?_
  obtain rfl := sI h
  exact ⟨rfl, by kernel_rfl⟩
def f110_l0_post (x3 : IntL) : ((IntL) ⊕ (IntL)) → Ex → St → Prop
 | .inl o, x, s => x = .out 0 ∧ s = ⟨[(4, .ptr 102 0), (5, .ptr 206 0)], [(102, bx 68 t67 x3), (206, bx 68 t67 o)]⟩
 | .inr o, x, s => x = .ret ∧ fin110  o x s
def f110_l0_b  (again : RatL → Option ((IntL) ⊕ (IntL))) : RatL → Option ((IntL) ⊕ (IntL))
 | (x4, x5) =>
 (bif (decide ((0 : Int) < (ofN (List.length x5.2)))) then
 (F156 x4).bind fun y18 =>
 (F156 x5).bind fun y19 =>
 (bif y18.2 then
 (bif y19.2 then
 ((f110_l1  (2 + Int.toNat y19.1) (y18.1, y19.1)).bind fun o23 =>
 (F107 o23).bind fun y24 =>
 (F106 false y24).bind fun y25 =>
 some (.inr y25))
 else
 (F157 x4.2 x5.2).bind fun y26 =>
 (F106 false y26.2).bind fun y27 =>
 again (x5, y27))
 else
 (F157 x4.2 x5.2).bind fun y28 =>
 (F106 false y28.2).bind fun y29 =>
 again (x5, y29))
 else
 some (.inl x4))
def f110_l0  : Nat → RatL → Option ((IntL) ⊕ (IntL)) := loopF (f110_l0_b )
theorem f110_l0_ok (x3 : IntL) (k : Nat) (x4 : IntL) (x5 : IntL) {out : ((IntL) ⊕ (IntL))} (h : f110_l0  k (x4, x5) = some out) : Run Pg 61 (bk1 (sq1 (sq2 (sq2 c_110)))) ⟨[(4, .ptr 102 0), (5, .ptr 206 0), (6, .ptr 207 0)], [(102, bx 68 t67 x3), (206, bx 68 t67 x4), (207, bx 68 t67 x5)]⟩ (f110_l0_post x3 out) := by
 refine Run.loopN (by kernel_rfl) (fun m s => ∃ x4 x5, s = ⟨[(4, .ptr 102 0), (5, .ptr 206 0), (6, .ptr 207 0)], [(102, bx 68 t67 x3), (206, bx 68 t67 x4), (207, bx 68 t67 x5)]⟩ ∧ f110_l0  m (x4, x5) = some out) ?_ k ⟨x4, x5,  rfl, h⟩
 rintro m s ⟨x4, x5,  rfl, h⟩
 cases m with
 | zero => cases h
 | succ m =>
 replace h : f110_l0_b  (f110_l0  m) (x4, x5) = some out := h
 unfold f110_l0_b at h
 refine Run.sq ?_
 refine qN [] 300 ⟨[(4, .ptr 102 0), (5, .ptr 206 0), (6, .ptr 207 0), (22, .d t4 (decide ((0 : Int) < (ofN (List.length x5.2)))))], [(102, bx 68 t67 x3), (206, bx 68 t67 x4), (207, bx 68 t67 x5)]⟩ aN ?_
 refine Run.cd (decide ((0 : Int) < (ofN (List.length x5.2)))) (fun hb => ?_) (fun hb => ?_)
 ·replace h := bif_t h hb
  refine Run.sk ?_
  show Run Pg 61 _ _ _
  refine Run.bl 1 ?_
  obtain ⟨y18, h_y18, h⟩ := bnd_elim h
  refine qN [(1, .call (.tup (.vcons (.d t12 y18.1) (.vcons (.d t4 y18.2) .vnil))))] 400 ⟨[(4, .ptr 102 0), (5, .ptr 206 0), (6, .ptr 207 0), (7, .d t12 y18.1), (8, .d t4 y18.2)], [(102, bx 68 t67 x3), (206, bx 68 t67 x4), (207, bx 68 t67 x5)]⟩ (aC (c156 h_y18) aN) ?_
  obtain ⟨y19, h_y19, h⟩ := bnd_elim h
  refine qN [(1, .call (.tup (.vcons (.d t12 y19.1) (.vcons (.d t4 y19.2) .vnil))))] 500 ⟨[(4, .ptr 102 0), (5, .ptr 206 0), (6, .ptr 207 0), (7, .d t12 y18.1), (8, .d t4 y18.2), (9, .d t12 y19.1), (10, .d t4 y19.2)], [(102, bx 68 t67 x3), (206, bx 68 t67 x4), (207, bx 68 t67 x5)]⟩ (aC (c156 h_y19) aN) ?_
  refine Run.sq ?_
  rcases bif_elim h with ⟨hb0, h⟩ | ⟨hb0, h⟩
  ·refine qN [(1, .b true)] 600 ⟨[(4, .ptr 102 0), (5, .ptr 206 0), (6, .ptr 207 0), (7, .d t12 y18.1), (9, .d t12 y19.1), (36, .d t4 y19.2)], [(102, bx 68 t67 x3), (206, bx 68 t67 x4), (207, bx 68 t67 x5)]⟩ (aC hb0 aN) ?_
   refine Run.cd y19.2 (fun hb => ?_) (fun hb => ?_)
   ·replace h := bif_t h hb
    refine Run.sq ?_
    refine Run.bl 2 ?_
    refine qK ⟨[(4, .ptr 102 0), (7, .d t12 y18.1), (9, .d t12 y19.1)], [(102, bx 68 t67 x3)]⟩ ?_
    obtain ⟨o23, h_o23, h⟩ := bnd_elim h
    refine Run.mono (f110_l1_ok x3 _ y18.1 y19.1 h_o23) ?_
    rintro _ _ ⟨rfl, rfl⟩
    show Run Pg 61 _ _ _
    obtain ⟨y24, h_y24, h⟩ := bnd_elim h
    obtain ⟨y25, h_y25, h⟩ := bnd_elim h
    refine qN [(1, .call (.d t66 y24)), (2, .call (.d t67 y25))] 900 ⟨[(4, .ptr 102 0)], [(102, bx 68 t67 y25)]⟩ (aC (c107 h_y24) (aC (c106 h_y25) aN)) ?_
    refine Run.rt ?_
    obtain rfl := sI h
    exact ⟨rfl, [(.d t67 y25)], by kernel_rfl, by kernel_rfl⟩
   ·replace h := bif_f h hb
    refine Run.sk ?_
    show Run Pg 61 _ _ _
    obtain ⟨y26, h_y26, h⟩ := bnd_elim h
    refine qN [(4, .call (.tup (.vcons (.d t66 y26.1) (.vcons (.d t66 y26.2) .vnil))))] 1000 ⟨[(4, .ptr 102 0), (5, .ptr 206 0), (6, .ptr 207 0), (12, .d t66 y26.2)], [(102, bx 68 t67 x3), (206, bx 68 t67 x4), (207, bx 68 t67 x5)]⟩ (aC (c157 h_y26) aN) ?_
    obtain ⟨y27, h_y27, h⟩ := bnd_elim h
    refine qE [(2, .call (.d t67 y27))] 1100 ⟨[(4, .ptr 102 0), (5, .ptr 206 0), (6, .ptr 207 0)], [(102, bx 68 t67 x3), (206, bx 68 t67 x5), (207, bx 68 t67 y27)]⟩ (aC (c106 h_y27) aN) ?_
    exact ⟨m, Nat.lt_succ_self m, _, _, rfl, h⟩
  ·refine qN [(1, .b false)] 600 ⟨[(4, .ptr 102 0), (5, .ptr 206 0), (6, .ptr 207 0), (7, .d t12 y18.1), (9, .d t12 y19.1), (36, .d t4 false)], [(102, bx 68 t67 x3), (206, bx 68 t67 x4), (207, bx 68 t67 x5)]⟩ (aC hb0 aN) ?_
   refine Run.cd false (fun hb => (by cases hb)) (fun hb => ?_)
   refine Run.sk ?_
   show Run Pg 61 _ _ _
   obtain ⟨y28, h_y28, h⟩ := bnd_elim h
   refine qN [(4, .call (.tup (.vcons (.d t66 y28.1) (.vcons (.d t66 y28.2) .vnil))))] 1000 ⟨[(4, .ptr 102 0), (5, .ptr 206 0), (6, .ptr 207 0), (12, .d t66 y28.2)], [(102, bx 68 t67 x3), (206, bx 68 t67 x4), (207, bx 68 t67 x5)]⟩ (aC (c157 h_y28) aN) ?_
   obtain ⟨y29, h_y29, h⟩ := bnd_elim h
   refine qE [(2, .call (.d t67 y29))] 1100 ⟨[(4, .ptr 102 0), (5, .ptr 206 0), (6, .ptr 207 0)], [(102, bx 68 t67 x3), (206, bx 68 t67 x5), (207, bx 68 t67 y29)]⟩ (aC (c106 h_y29) aN) ?_
   exact ⟨m, Nat.lt_succ_self m, _, _, rfl, h⟩
 ·replace h := bif_f h hb
  refine qK ⟨[(4, .ptr 102 0), (5, .ptr 206 0)], [(102, bx 68 t67 x3), (206, bx 68 t67 x4)]⟩ ?_
  refine Run.ex 0 ?_
  obtain rfl := sI h
  exact ⟨rfl, by kernel_rfl⟩
def F110 (a0 : IntL) (a1 : IntL) : Option (IntL) :=
 (F106 false a0.2).bind fun y1 =>
 (F106 false a1.2).bind fun y2 =>
 ((f110_l0  (2 + valF y2.2) (y1, y2)).bind fun o30 => match o30 with
 | .inl o31 =>
 gd (List.length o31.2 ≤ 1073741824) <|
 (F106 false o31.2).bind fun y32 =>
 some y32
 | .inr o33 =>
 some o33)
theorem c110 {a0 : IntL} {a1 : IntL} {r : IntL} (h : F110 a0 a1 = some r) : CallPure Pg 110 [(.d t67 a0), (.d t67 a1)] (.d t67 r) := by
 refine qC c_110 61 [.cell 4 68] [68] Go.Proofs.Tryz.func110 ?_
 show Run Pg 61 c_110 ⟨[(0, .d t67 a0), (1, .d t67 a1)], []⟩ (fin110 r)
 unfold F110 at h
 refine qN [] 100 ⟨[(2, .ptr 100 0), (3, .ptr 101 0), (4, .ptr 102 0)], [(100, bx 68 t67 a0), (101, bx 68 t67 a1), (102, bx 68 t67 (false, ([] : List Int)))]⟩ aN ?_
 obtain ⟨y1, h_y1, h⟩ := bnd_elim h
 obtain ⟨y2, h_y2, h⟩ := bnd_elim h
 refine qN [(2, .call (.d t67 y1)), (5, .call (.d t67 y2))] 200 ⟨[(4, .ptr 102 0), (5, .ptr 206 0), (6, .ptr 207 0)], [(102, bx 68 t67 (false, ([] : List Int))), (206, bx 68 t67 y1), (207, bx 68 t67 y2)]⟩ (aC (c106 h_y1) (aC (c106 h_y2) aN)) ?_
 refine Run.sq ?_
 refine Run.bl 0 ?_
 obtain ⟨o30, h_o30, h⟩ := bnd_elim h
 refine Run.mono (f110_l0_ok (false, ([] : List Int)) _ y1 y2 h_o30) ?_
 rcases o30 with o31 | o33
 ·rintro _ _ ⟨rfl, rfl⟩
  show Run Pg 61 _ _ _
  obtain ⟨g_0, h⟩ := gd_elim h
  obtain ⟨y32, h_y32, h⟩ := bnd_elim h
  refine qN [(3, .call (.d t67 y32))] 1200 ⟨[(4, .ptr 102 0)], [(102, bx 68 t67 y32)]⟩ (aC g_0 (aC (c106 h_y32) aN)) ?_
  refine Run.rt ?_
  obtain rfl := sI h
  exact qR [(.d t67 y32)]
 ·rintro _ s ⟨rfl, hr⟩
  obtain rfl := sI h
  exact hr

/-! ## f71 -/
noncomputable def c_71 : Code := body0 Go.Proofs.Tryz.f71
def fin71 (r : Int) : Ex → St → Prop := endK X0 [.tmp 4] [3] (.d t2 r)
def F71 (a0 : IntL) (a1 : IntL) : Option (Int) :=
 (bif (!(a0.1 == a1.1)) then
 (bif a0.1 then
 some (-1 : Int)
 else
 some (1 : Int))
 else
 (bif a0.1 then
 (F114 a1.2 a0.2).bind fun y1 =>
 some y1
 else
 (F114 a0.2 a1.2).bind fun y2 =>
 some y2))
theorem c71 {a0 : IntL} {a1 : IntL} {r : Int} (h : F71 a0 a1 = some r) : CallPure Pg 71 [(.d t67 a0), (.d t67 a1)] (.d t2 r) := by
 refine qC c_71 24 [.tmp 4] [3] Go.Proofs.Tryz.func71 ?_
 show Run Pg 24 c_71 ⟨[(0, .d t67 a0), (1, .d t67 a1)], []⟩ (fin71 r)
 unfold F71 at h
 refine qN [] 100 ⟨[(2, .ptr 100 0), (3, .ptr 101 0)], [(100, bx 68 t67 a0), (101, bx 68 t67 a1)]⟩ aN ?_
 refine Run.sq ?_
 refine qN [] 200 ⟨[(2, .ptr 100 0), (3, .ptr 101 0), (9, .d t4 (!(a0.1 == a1.1)))], [(100, bx 68 t67 a0), (101, bx 68 t67 a1)]⟩ aN ?_
 refine Run.cd (!(a0.1 == a1.1)) (fun hb => ?_) (fun hb => ?_)
 ·replace h := bif_t h hb
  refine Run.sq ?_
  refine qN [] 300 ⟨[(11, .d t4 a0.1)], []⟩ aN ?_
  refine Run.cd a0.1 (fun hb => ?_) (fun hb => ?_)
  ·replace h := bif_t h hb
   refine qN [] 400 ⟨[(4, .d t2 (-1 : Int))], []⟩ aN ?_
   refine Run.rt ?_
   obtain rfl := sI h
   exact qR [(.d t2 (-1 : Int))]
  ·replace h := bif_f h hb
   refine Run.sk ?_
   show Run Pg 24 _ _ _
   refine qN [] 500 ⟨[(4, .d t2 (1 : Int))], []⟩ aN ?_
   refine Run.rt ?_
   obtain rfl := sI h
   exact qR [(.d t2 (1 : Int))]
 ·replace h := bif_f h hb
  refine Run.sk ?_
  show Run Pg 24 _ _ _
  refine Run.sq ?_
  refine qN [] 600 ⟨[(2, .ptr 100 0), (3, .ptr 101 0), (13, .d t4 a0.1)], [(100, bx 68 t67 a0), (101, bx 68 t67 a1)]⟩ aN ?_
  refine Run.cd a0.1 (fun hb => ?_) (fun hb => ?_)
  ·replace h := bif_t h hb
   obtain ⟨y1, h_y1, h⟩ := bnd_elim h
   refine qN [(4, .call (.d t2 y1))] 700 ⟨[(4, .d t2 y1)], []⟩ (aC (c114 h_y1) aN) ?_
   refine Run.rt ?_
   obtain rfl := sI h
   exact qR [(.d t2 y1)]
  ·replace h := bif_f h hb
   refine Run.sk ?_
   show Run Pg 24 _ _ _
   obtain ⟨y2, h_y2, h⟩ := bnd_elim h
   refine qN [(4, .call (.d t2 y2))] 800 ⟨[(4, .d t2 y2)], []⟩ (aC (c114 h_y2) aN) ?_
   refine Run.rt ?_
   obtain rfl := sI h
   exact qR [(.d t2 y2)]

/-! ## f219 -/
noncomputable def c_219 : Code := body0 Go.Proofs.Tryz.f219
def fin219 (r : (List Int)) : Ex → St → Prop := endK X0 [.tmp 4] [66] (.d t66 r)
def f219_c0_post (x1 : List Int) (x2 : List Int) (x3 : Bool) : ((List Int) × (List Int)) → Ex → St → Prop
 | o, x, s => x = .nrm ∧ s = ⟨[(0, .d t66 o.1), (1, .d t66 o.2)], []⟩
def f219_c0 (x1 : List Int) (x2 : List Int) (x3 : Bool) : Option ((List Int) × (List Int)) :=
 (bif x3 then
 some (x2, x1)
 else
 some (x1, x2))
theorem f219_c0_ok (x1 : List Int) (x2 : List Int) (x3 : Bool) {out : ((List Int) × (List Int))} (h : f219_c0 x1 x2 x3 = some out) : Run Pg 53 (sq2 (sq1 (sq2 c_219))) ⟨[(0, .d t66 x1), (1, .d t66 x2), (13, .d t4 x3)], []⟩ (f219_c0_post x1 x2 x3 out) := by
 unfold f219_c0 at h
 refine Run.cd x3 (fun hb => ?_) (fun hb => ?_)
 ·replace h := bif_t h hb
  refine qE [] 300 ⟨[(0, .d t66 x2), (1, .d t66 x1)], []⟩ aN ?_
  obtain rfl := sI h
  exact ⟨rfl, by kernel_rfl⟩
 ·replace h := bif_f h hb
  refine qK ⟨[(0, .d t66 x1), (1, .d t66 x2)], []⟩ ?_
  refine Run.sk ?_
  obtain rfl := sI h
  exact ⟨rfl, by kernel_rfl⟩
def f219_c2_post (x28 : List Int) (x29 : Int) (x30 : Int) (x31 : List Int) (x32 : Int) (x33 : Bool) (x34 : List Int) : (Int) → Ex → St → Prop
 | o, x, s => x = .nrm ∧ s = ⟨[(1, .d t66 x28), (5, .vec 403 t158), (8, .d t158 o), (20, .d t66 x31), (21, .d t2 x32), (22, .d t2 x29)], [(403, .vec 158 t158 x34)]⟩
def f219_c2 (x28 : List Int) (x29 : Int) (x30 : Int) (x33 : Bool) : Option (Int) :=
 (bif x33 then
 gd (0 ≤ x29) <|
 gd (x29 < ((List.length x28 : Nat) : Int)) <|
 some (wrapI .u32 (x30 + (List.getD x28 (toN x29) (0 : Int))))
 else
 some x30)
theorem f219_c2_ok (x28 : List Int) (x29 : Int) (x30 : Int) (x31 : List Int) (x32 : Int) (x33 : Bool) (x34 : List Int) {out : (Int)} (h : f219_c2 x28 x29 x30 x33 = some out) : Run Pg 53 (sq2 (sq1 (sq2 (sq2 (bk1 (sq1 (sq2 (sq2 (lp1 (bk1 (sq2 (sq1 (sq2 (sq2 (sq2 (sq2 c_219)))))))))))))))) ⟨[(1, .d t66 x28), (5, .vec 403 t158), (7, .d t2 x29), (8, .d t158 x30), (20, .d t66 x31), (21, .d t2 x32), (22, .d t2 x29), (33, .d t4 x33)], [(403, .vec 158 t158 x34)]⟩ (f219_c2_post x28 x29 x30 x31 x32 x33 x34 out) := by
 unfold f219_c2 at h
 refine Run.cd x33 (fun hb => ?_) (fun hb => ?_)
 ·replace h := bif_t h hb
  obtain ⟨g_0, h⟩ := gd_elim h
  obtain ⟨g_1, h⟩ := gd_elim h
  refine qE [] 1100 ⟨[(1, .d t66 x28), (5, .vec 403 t158), (8, .d t158 (wrapI .u32 (x30 + (List.getD x28 (toN x29) (0 : Int))))), (20, .d t66 x31), (21, .d t2 x32), (22, .d t2 x29)], [(403, .vec 158 t158 x34)]⟩ (aC g_0 (aC g_1 aN)) ?_
  obtain rfl := sI h
  exact ⟨rfl, by kernel_rfl⟩
 ·replace h := bif_f h hb
  refine qK ⟨[(1, .d t66 x28), (5, .vec 403 t158), (8, .d t158 x30), (20, .d t66 x31), (21, .d t2 x32), (22, .d t2 x29)], [(403, .vec 158 t158 x34)]⟩ ?_
  refine Run.sk ?_
  obtain rfl := sI h
  exact ⟨rfl, by kernel_rfl⟩
def f219_c3_post (x36 : List Int) (x37 : Int) (x38 : Int) (x39 : List Int) (x40 : Int) (x41 : Int) (x42 : Bool) (x43 : List Int) : (Int × Int) → Ex → St → Prop
 | o, x, s => x = .nrm ∧ s = ⟨[(1, .d t66 x36), (5, .vec 403 t158), (6, .d t158 o.1), (8, .d t158 o.2), (20, .d t66 x39), (21, .d t2 x40), (22, .d t2 x41)], [(403, .vec 158 t158 x43)]⟩
def f219_c3 (x37 : Int) (x38 : Int) (x42 : Bool) : Option (Int × Int) :=
 (bif x42 then
 some ((1 : Int), (wrapI .u32 (x38 - (1000000000 : Int))))
 else
 some (x37, x38))
theorem f219_c3_ok (x36 : List Int) (x37 : Int) (x38 : Int) (x39 : List Int) (x40 : Int) (x41 : Int) (x42 : Bool) (x43 : List Int) {out : (Int × Int)} (h : f219_c3 x37 x38 x42 = some out) : Run Pg 53 (sq2 (sq1 (sq2 (sq2 (sq2 (sq2 (bk1 (sq1 (sq2 (sq2 (lp1 (bk1 (sq2 (sq1 (sq2 (sq2 (sq2 (sq2 c_219)))))))))))))))))) ⟨[(1, .d t66 x36), (5, .vec 403 t158), (6, .d t158 x37), (8, .d t158 x38), (20, .d t66 x39), (21, .d t2 x40), (22, .d t2 x41), (41, .d t4 x42)], [(403, .vec 158 t158 x43)]⟩ (f219_c3_post x36 x37 x38 x39 x40 x41 x42 x43 out) := by
 unfold f219_c3 at h
 refine Run.cd x42 (fun hb => ?_) (fun hb => ?_)
 ·replace h := bif_t h hb
  refine qE [] 1400 ⟨[(1, .d t66 x36), (5, .vec 403 t158), (6, .d t158 (1 : Int)), (8, .d t158 (wrapI .u32 (x38 - (1000000000 : Int)))), (20, .d t66 x39), (21, .d t2 x40), (22, .d t2 x41)], [(403, .vec 158 t158 x43)]⟩ aN ?_
  obtain rfl := sI h
  exact ⟨rfl, by kernel_rfl⟩
 ·replace h := bif_f h hb
  refine qK ⟨[(1, .d t66 x36), (5, .vec 403 t158), (6, .d t158 x37), (8, .d t158 x38), (20, .d t66 x39), (21, .d t2 x40), (22, .d t2 x41)], [(403, .vec 158 t158 x43)]⟩ ?_
  refine Run.sk ?_
  obtain rfl := sI h
  exact ⟨rfl, by kernel_rfl⟩
def f219_l1_post (x5 : List Int) (x7 : List Int) (x8 : Int) : (Int × (List Int)) → Ex → St → Prop
 | o, x, s => x = .out 0 ∧ s = ⟨[(5, .vec 403 t158), (6, .d t158 o.1)], [(403, .vec 158 t158 o.2)]⟩
def f219_l1_b (x5 : List Int) (x7 : List Int) (x8 : Int) (again : Int × Int × (List Int) → Option (Int × (List Int))) : Int × Int × (List Int) → Option (Int × (List Int))
 | (x6, x9, x10) =>
 (bif (decide (x9 < x8)) then
 gd (0 ≤ x9) <|
 gd (x9 < ((List.length x7 : Nat) : Int)) <|
 ((f219_c2 x5 x9 (wrapI .u32 ((List.getD x7 (toN x9) (0 : Int)) + x6)) (decide (x9 < (ofN (List.length x5))))).bind fun o35 =>
 ((f219_c3 (0 : Int) o35 (decide ((1000000000 : Int) ≤ o35))).bind fun o44 =>
 gd (List.length (x10 ++ ([o44.2] : List Int)) ≤ 1073741824) <|
 again (o44.1, (wrapI .i64 (x9 + (1 : Int))), (x10 ++ ([o44.2] : List Int)))))
 else
 some (x6, x10))
def f219_l1 (x5 : List Int) (x7 : List Int) (x8 : Int) : Nat → Int × Int × (List Int) → Option (Int × (List Int)) := loopF (f219_l1_b x5 x7 x8)
theorem f219_l1_ok (x5 : List Int) (x7 : List Int) (x8 : Int) (k : Nat) (x6 : Int) (x9 : Int) (x10 : List Int) {out : (Int × (List Int))} (h : f219_l1 x5 x7 x8 k (x6, x9, x10) = some out) : Run Pg 53 (bk1 (sq2 (sq1 (sq2 (sq2 (sq2 (sq2 c_219))))))) ⟨[(1, .d t66 x5), (5, .vec 403 t158), (6, .d t158 x6), (20, .d t66 x7), (21, .d t2 x8), (22, .d t2 x9)], [(403, .vec 158 t158 x10)]⟩ (f219_l1_post x5 x7 x8 out) := by
 refine Run.loopN (by kernel_rfl) (fun m s => ∃ x6 x9 x10, s = ⟨[(1, .d t66 x5), (5, .vec 403 t158), (6, .d t158 x6), (20, .d t66 x7), (21, .d t2 x8), (22, .d t2 x9)], [(403, .vec 158 t158 x10)]⟩ ∧ f219_l1 x5 x7 x8 m (x6, x9, x10) = some out) ?_ k ⟨x6, x9, x10,  rfl, h⟩
 rintro m s ⟨x6, x9, x10,  rfl, h⟩
 cases m with
 | zero => cases h
 | succ m =>
 replace h : f219_l1_b x5 x7 x8 (f219_l1 x5 x7 x8 m) (x6, x9, x10) = some out := h
 unfold f219_l1_b at h
 refine qN [] 700 ⟨[(1, .d t66 x5), (5, .vec 403 t158), (6, .d t158 x6), (20, .d t66 x7), (21, .d t2 x8), (22, .d t2 x9), (23, .d t4 (decide (x9 < x8)))], [(403, .vec 158 t158 x10)]⟩ aN ?_
 refine Run.sq ?_
 refine Run.cd (decide (x9 < x8)) (fun hb => ?_) (fun hb => ?_)
 ·replace h := bif_t h hb
  refine Run.sk ?_
  show Run Pg 53 _ _ _
  refine Run.sq ?_
  refine Run.bl 1 ?_
  obtain ⟨g_0, h⟩ := gd_elim h
  obtain ⟨g_1, h⟩ := gd_elim h
  refine qN [] 800 ⟨[(1, .d t66 x5), (5, .vec 403 t158), (6, .d t158 x6), (7, .d t2 x9), (8, .d t158 (List.getD x7 (toN x9) (0 : Int))), (20, .d t66 x7), (21, .d t2 x8), (22, .d t2 x9)], [(403, .vec 158 t158 x10)]⟩ (aC g_0 (aC g_1 aN)) ?_
  refine qN [] 900 ⟨[(1, .d t66 x5), (5, .vec 403 t158), (7, .d t2 x9), (8, .d t158 (wrapI .u32 ((List.getD x7 (toN x9) (0 : Int)) + x6))), (20, .d t66 x7), (21, .d t2 x8), (22, .d t2 x9)], [(403, .vec 158 t158 x10)]⟩ aN ?_
  refine Run.sq ?_
  refine qN [] 1000 ⟨[(1, .d t66 x5), (5, .vec 403 t158), (7, .d t2 x9), (8, .d t158 (wrapI .u32 ((List.getD x7 (toN x9) (0 : Int)) + x6))), (20, .d t66 x7), (21, .d t2 x8), (22, .d t2 x9), (33, .d t4 (decide (x9 < (ofN (List.length x5)))))], [(403, .vec 158 t158 x10)]⟩ aN ?_
  obtain ⟨o35, h_o35, h⟩ := bnd_elim h
  refine Run.mono (f219_c2_ok x5 x9 (wrapI .u32 ((List.getD x7 (toN x9) (0 : Int)) + x6)) x7 x8 (decide (x9 < (ofN (List.length x5)))) x10 h_o35) ?_
  rintro _ _ ⟨rfl, rfl⟩
  show Run Pg 53 _ _ _
  refine qN [] 1200 ⟨[(1, .d t66 x5), (5, .vec 403 t158), (6, .d t158 (0 : Int)), (8, .d t158 o35), (20, .d t66 x7), (21, .d t2 x8), (22, .d t2 x9)], [(403, .vec 158 t158 x10)]⟩ aN ?_
  refine Run.sq ?_
  refine qN [] 1300 ⟨[(1, .d t66 x5), (5, .vec 403 t158), (6, .d t158 (0 : Int)), (8, .d t158 o35), (20, .d t66 x7), (21, .d t2 x8), (22, .d t2 x9), (41, .d t4 (decide ((1000000000 : Int) ≤ o35)))], [(403, .vec 158 t158 x10)]⟩ aN ?_
  obtain ⟨o44, h_o44, h⟩ := bnd_elim h
  refine Run.mono (f219_c3_ok x5 (0 : Int) o35 x7 x8 x9 (decide ((1000000000 : Int) ≤ o35)) x10 h_o44) ?_
  rintro _ _ ⟨rfl, rfl⟩
  show Run Pg 53 _ _ _
  obtain ⟨g_0, h⟩ := gd_elim h
  refine qE [] 1500 ⟨[(1, .d t66 x5), (5, .vec 403 t158), (6, .d t158 o44.1), (20, .d t66 x7), (21, .d t2 x8), (22, .d t2 x9)], [(403, .vec 158 t158 (x10 ++ ([o44.2] : List Int)))]⟩ (aC g_0 aN) ?_
  show Run Pg 53 _ _ _
  refine qE [] 1600 ⟨[(1, .d t66 x5), (5, .vec 403 t158), (6, .d t158 o44.1), (20, .d t66 x7), (21, .d t2 x8), (22, .d t2 (wrapI .i64 (x9 + (1 : Int))))], [(403, .vec 158 t158 (x10 ++ ([o44.2] : List Int)))]⟩ aN ?_
  exact ⟨m, Nat.lt_succ_self m, _, _, _, rfl, h⟩
 ·replace h := bif_f h hb
  refine qK ⟨[(5, .vec 403 t158), (6, .d t158 x6)], [(403, .vec 158 t158 x10)]⟩ ?_
  refine Run.ex 0 ?_
  obtain rfl := sI h
  exact ⟨rfl, by kernel_rfl⟩
def F219 (a0 : List Int) (a1 : List Int) : Option ((List Int)) :=
 ((f219_c0 a0 a1 (decide ((ofN (List.length a0)) < (ofN (List.length a1))))).bind fun o4 =>
 gd ((0 : Int) ≤ (wrapI .i64 ((ofN (List.length o4.1)) + (1 : Int)))) <|
 gd ((wrapI .i64 ((ofN (List.length o4.1)) + (1 : Int))) ≤ 1073741824) <|
 ((f219_l1 o4.2 o4.1 (ofN (List.length o4.1)) (2 + List.length o4.2 + List.length o4.1 + List.length (List.replicate (toN (0 : Int)) (0 : Int))) ((0 : Int), (0 : Int), (List.replicate (toN (0 : Int)) (0 : Int)))).bind fun o45 =>
 gd (List.length (o45.2 ++ ([o45.1] : List Int)) ≤ 1073741824) <|
 some (o45.2 ++ ([o45.1] : List Int))))
theorem c219 {a0 : List Int} {a1 : List Int} {r : (List Int)} (h : F219 a0 a1 = some r) : CallPure Pg 219 [(.d t66 a0), (.d t66 a1)] (.d t66 r) := by
 refine qC c_219 53 [.tmp 4] [66] Go.Proofs.Tryz.func219 ?_
 show Run Pg 53 c_219 ⟨[(0, .d t66 a0), (1, .d t66 a1)], []⟩ (fin219 r)
 unfold F219 at h
 refine qN [] 100 ⟨[(0, .d t66 a0), (1, .d t66 a1)], []⟩ aN ?_
 refine Run.sq ?_
 refine qN [] 200 ⟨[(0, .d t66 a0), (1, .d t66 a1), (13, .d t4 (decide ((ofN (List.length a0)) < (ofN (List.length a1)))))], []⟩ aN ?_
 obtain ⟨o4, h_o4, h⟩ := bnd_elim h
 refine Run.mono (f219_c0_ok a0 a1 (decide ((ofN (List.length a0)) < (ofN (List.length a1)))) h_o4) ?_
 rintro _ _ ⟨rfl, rfl⟩
 show Run Pg 53 _ _ _
 obtain ⟨g_1, h⟩ := gd_elim h
 obtain ⟨g_2, h⟩ := gd_elim h
 refine qN [] 400 ⟨[(0, .d t66 o4.1), (1, .d t66 o4.2), (5, .vec 403 t158)], [(403, .vec 158 t158 (List.replicate (toN (0 : Int)) (0 : Int)))]⟩ (aC (show (0 ≤ (0 : Int)) from (by decide)) (aC g_1 (aC g_2 aN))) ?_
 refine qN [] 500 ⟨[(0, .d t66 o4.1), (1, .d t66 o4.2), (5, .vec 403 t158), (6, .d t158 (0 : Int))], [(403, .vec 158 t158 (List.replicate (toN (0 : Int)) (0 : Int)))]⟩ aN ?_
 refine Run.sq ?_
 refine qN [] 600 ⟨[(1, .d t66 o4.2), (5, .vec 403 t158), (6, .d t158 (0 : Int)), (20, .d t66 o4.1), (21, .d t2 (ofN (List.length o4.1))), (22, .d t2 (0 : Int))], [(403, .vec 158 t158 (List.replicate (toN (0 : Int)) (0 : Int)))]⟩ aN ?_
 refine Run.bl 0 ?_
 obtain ⟨o45, h_o45, h⟩ := bnd_elim h
 refine Run.mono (f219_l1_ok o4.2 o4.1 (ofN (List.length o4.1)) _ (0 : Int) (0 : Int) (List.replicate (toN (0 : Int)) (0 : Int)) h_o45) ?_
 rintro _ _ ⟨rfl, rfl⟩
 show Run Pg 53 _ _ _
 obtain ⟨g_0, h⟩ := gd_elim h
 refine qN [] 1700 ⟨[(4, .vec 403 t158)], [(403, .vec 158 t158 (o45.2 ++ ([o45.1] : List Int)))]⟩ (aC g_0 aN) ?_
 refine Run.freeze (s' := ⟨[(4, .d t66 (o45.2 ++ ([o45.1] : List Int)))], []⟩) 403 (by kernel_rfl) ?_
 refine Run.rt ?_
 obtain rfl := sI h
 exact qR [(.d t66 (o45.2 ++ ([o45.1] : List Int)))]

/-! ## f220 -/
noncomputable def c_220 : Code := body0 Go.Proofs.Tryz.f220
def fin220 (r : (List Int)) : Ex → St → Prop := endK X0 [.tmp 4] [66] (.d t66 r)
def f220_c1_post (x26 : List Int) (x27 : Int) (x28 : Int) (x29 : Int) (x30 : List Int) (x31 : Int) (x32 : Bool) (x33 : List Int) : (Int) → Ex → St → Prop
 | o, x, s => x = .nrm ∧ s = ⟨[(1, .d t66 x26), (5, .vec 202 t158), (7, .d t2 x27), (8, .d t158 x28), (9, .d t158 o), (13, .d t66 x30), (14, .d t2 x31), (15, .d t2 x27)], [(202, .vec 158 t158 x33)]⟩
def f220_c1 (x26 : List Int) (x27 : Int) (x29 : Int) (x32 : Bool) : Option (Int) :=
 (bif x32 then
 gd (0 ≤ x27) <|
 gd (x27 < ((List.length x26 : Nat) : Int)) <|
 some (wrapI .u32 (x29 + (List.getD x26 (toN x27) (0 : Int))))
 else
 some x29)
theorem f220_c1_ok (x26 : List Int) (x27 : Int) (x28 : Int) (x29 : Int) (x30 : List Int) (x31 : Int) (x32 : Bool) (x33 : List Int) {out : (Int)} (h : f220_c1 x26 x27 x29 x32 = some out) : Run Pg 44 (sq2 (sq1 (sq2 (sq2 (bk1 (sq1 (sq2 (sq2 (lp1 (bk1 (sq2 (sq1 (sq2 (sq2 (sq2 c_220))))))))))))))) ⟨[(1, .d t66 x26), (5, .vec 202 t158), (7, .d t2 x27), (8, .d t158 x28), (9, .d t158 x29), (13, .d t66 x30), (14, .d t2 x31), (15, .d t2 x27), (24, .d t4 x32)], [(202, .vec 158 t158 x33)]⟩ (f220_c1_post x26 x27 x28 x29 x30 x31 x32 x33 out) := by
 unfold f220_c1 at h
 refine Run.cd x32 (fun hb => ?_) (fun hb => ?_)
 ·replace h := bif_t h hb
  obtain ⟨g_0, h⟩ := gd_elim h
  obtain ⟨g_1, h⟩ := gd_elim h
  refine qE [] 900 ⟨[(1, .d t66 x26), (5, .vec 202 t158), (7, .d t2 x27), (8, .d t158 x28), (9, .d t158 (wrapI .u32 (x29 + (List.getD x26 (toN x27) (0 : Int))))), (13, .d t66 x30), (14, .d t2 x31), (15, .d t2 x27)], [(202, .vec 158 t158 x33)]⟩ (aC g_0 (aC g_1 aN)) ?_
  obtain rfl := sI h
  exact ⟨rfl, by kernel_rfl⟩
 ·replace h := bif_f h hb
  refine qK ⟨[(1, .d t66 x26), (5, .vec 202 t158), (7, .d t2 x27), (8, .d t158 x28), (9, .d t158 x29), (13, .d t66 x30), (14, .d t2 x31), (15, .d t2 x27)], [(202, .vec 158 t158 x33)]⟩ ?_
  refine Run.sk ?_
  obtain rfl := sI h
  exact ⟨rfl, by kernel_rfl⟩
def f220_c2_post (x35 : List Int) (x36 : Int) (x37 : Int) (x38 : Int) (x39 : Int) (x40 : List Int) (x41 : Int) (x42 : Bool) (x43 : List Int) : (Int × Int) → Ex → St → Prop
 | o, x, s => x = .nrm ∧ s = ⟨[(1, .d t66 x35), (5, .vec 202 t158), (6, .d t158 o.1), (7, .d t2 x37), (8, .d t158 o.2), (9, .d t158 x39), (13, .d t66 x40), (14, .d t2 x41), (15, .d t2 x37)], [(202, .vec 158 t158 x43)]⟩
def f220_c2 (x36 : Int) (x38 : Int) (x42 : Bool) : Option (Int × Int) :=
 (bif x42 then
 some ((1 : Int), (wrapI .u32 (x38 + (1000000000 : Int))))
 else
 some (x36, x38))
theorem f220_c2_ok (x35 : List Int) (x36 : Int) (x37 : Int) (x38 : Int) (x39 : Int) (x40 : List Int) (x41 : Int) (x42 : Bool) (x43 : List Int) {out : (Int × Int)} (h : f220_c2 x36 x38 x42 = some out) : Run Pg 44 (sq2 (sq1 (sq2 (sq2 (sq2 (sq2 (bk1 (sq1 (sq2 (sq2 (lp1 (bk1 (sq2 (sq1 (sq2 (sq2 (sq2 c_220))))))))))))))))) ⟨[(1, .d t66 x35), (5, .vec 202 t158), (6, .d t158 x36), (7, .d t2 x37), (8, .d t158 x38), (9, .d t158 x39), (13, .d t66 x40), (14, .d t2 x41), (15, .d t2 x37), (33, .d t4 x42)], [(202, .vec 158 t158 x43)]⟩ (f220_c2_post x35 x36 x37 x38 x39 x40 x41 x42 x43 out) := by
 unfold f220_c2 at h
 refine Run.cd x42 (fun hb => ?_) (fun hb => ?_)
 ·replace h := bif_t h hb
  refine qE [] 1200 ⟨[(1, .d t66 x35), (5, .vec 202 t158), (6, .d t158 (1 : Int)), (7, .d t2 x37), (8, .d t158 (wrapI .u32 (x38 + (1000000000 : Int)))), (9, .d t158 x39), (13, .d t66 x40), (14, .d t2 x41), (15, .d t2 x37)], [(202, .vec 158 t158 x43)]⟩ aN ?_
  obtain rfl := sI h
  exact ⟨rfl, by kernel_rfl⟩
 ·replace h := bif_f h hb
  refine qK ⟨[(1, .d t66 x35), (5, .vec 202 t158), (6, .d t158 x36), (7, .d t2 x37), (8, .d t158 x38), (9, .d t158 x39), (13, .d t66 x40), (14, .d t2 x41), (15, .d t2 x37)], [(202, .vec 158 t158 x43)]⟩ ?_
  refine Run.sk ?_
  obtain rfl := sI h
  exact ⟨rfl, by kernel_rfl⟩
def f220_l0_post (x1 : List Int) (x3 : List Int) (x4 : Int) : ((List Int)) → Ex → St → Prop
 | o, x, s => x = .out 0 ∧ s = ⟨[(5, .vec 202 t158)], [(202, .vec 158 t158 o)]⟩
def f220_l0_b (x1 : List Int) (x3 : List Int) (x4 : Int) (again : Int × Int × (List Int) → Option ((List Int))) : Int × Int × (List Int) → Option ((List Int))
 | (x2, x5, x6) =>
 (bif (decide (x5 < x4)) then
 gd (0 ≤ x5) <|
 gd (x5 < ((List.length x3 : Nat) : Int)) <|
 ((f220_c1 x1 x5 x2 (decide (x5 < (ofN (List.length x1))))).bind fun o34 =>
 ((f220_c2 (0 : Int) (List.getD x3 (toN x5) (0 : Int)) (decide ((List.getD x3 (toN x5) (0 : Int)) < o34))).bind fun o44 =>
 gd (0 ≤ x5) <|
 gd (x5 < ((List.length x6 : Nat) : Int)) <|
 gd ((toN x5) < List.length x6) <|
 again (o44.1, (wrapI .i64 (x5 + (1 : Int))), (List.set x6 (toN x5) (wrapI .u32 (o44.2 - o34))))))
 else
 some x6)
def f220_l0 (x1 : List Int) (x3 : List Int) (x4 : Int) : Nat → Int × Int × (List Int) → Option ((List Int)) := loopF (f220_l0_b x1 x3 x4)
theorem f220_l0_ok (x1 : List Int) (x3 : List Int) (x4 : Int) (k : Nat) (x2 : Int) (x5 : Int) (x6 : List Int) {out : ((List Int))} (h : f220_l0 x1 x3 x4 k (x2, x5, x6) = some out) : Run Pg 44 (bk1 (sq2 (sq1 (sq2 (sq2 (sq2 c_220)))))) ⟨[(1, .d t66 x1), (5, .vec 202 t158), (6, .d t158 x2), (13, .d t66 x3), (14, .d t2 x4), (15, .d t2 x5)], [(202, .vec 158 t158 x6)]⟩ (f220_l0_post x1 x3 x4 out) := by
 refine Run.loopN (by kernel_rfl) (fun m s => ∃ x2 x5 x6, s = ⟨[(1, .d t66 x1), (5, .vec 202 t158), (6, .d t158 x2), (13, .d t66 x3), (14, .d t2 x4), (15, .d t2 x5)], [(202, .vec 158 t158 x6)]⟩ ∧ f220_l0 x1 x3 x4 m (x2, x5, x6) = some out) ?_ k ⟨x2, x5, x6,  rfl, h⟩
 rintro m s ⟨x2, x5, x6,  rfl, h⟩
 cases m with
 | zero => cases h
 | succ m =>
 replace h : f220_l0_b x1 x3 x4 (f220_l0 x1 x3 x4 m) (x2, x5, x6) = some out := h
 unfold f220_l0_b at h
 refine qN [] 500 ⟨[(1, .d t66 x1), (5, .vec 202 t158), (6, .d t158 x2), (13, .d t66 x3), (14, .d t2 x4), (15, .d t2 x5), (16, .d t4 (decide (x5 < x4)))], [(202, .vec 158 t158 x6)]⟩ aN ?_
 refine Run.sq ?_
 refine Run.cd (decide (x5 < x4)) (fun hb => ?_) (fun hb => ?_)
 ·replace h := bif_t h hb
  refine Run.sk ?_
  show Run Pg 44 _ _ _
  refine Run.sq ?_
  refine Run.bl 1 ?_
  obtain ⟨g_0, h⟩ := gd_elim h
  obtain ⟨g_1, h⟩ := gd_elim h
  refine qN [] 600 ⟨[(1, .d t66 x1), (5, .vec 202 t158), (6, .d t158 x2), (7, .d t2 x5), (8, .d t158 (List.getD x3 (toN x5) (0 : Int))), (13, .d t66 x3), (14, .d t2 x4), (15, .d t2 x5)], [(202, .vec 158 t158 x6)]⟩ (aC g_0 (aC g_1 aN)) ?_
  refine qN [] 700 ⟨[(1, .d t66 x1), (5, .vec 202 t158), (7, .d t2 x5), (8, .d t158 (List.getD x3 (toN x5) (0 : Int))), (9, .d t158 x2), (13, .d t66 x3), (14, .d t2 x4), (15, .d t2 x5)], [(202, .vec 158 t158 x6)]⟩ aN ?_
  refine Run.sq ?_
  refine qN [] 800 ⟨[(1, .d t66 x1), (5, .vec 202 t158), (7, .d t2 x5), (8, .d t158 (List.getD x3 (toN x5) (0 : Int))), (9, .d t158 x2), (13, .d t66 x3), (14, .d t2 x4), (15, .d t2 x5), (24, .d t4 (decide (x5 < (ofN (List.length x1)))))], [(202, .vec 158 t158 x6)]⟩ aN ?_
  obtain ⟨o34, h_o34, h⟩ := bnd_elim h
  refine Run.mono (f220_c1_ok x1 x5 (List.getD x3 (toN x5) (0 : Int)) x2 x3 x4 (decide (x5 < (ofN (List.length x1)))) x6 h_o34) ?_
  rintro _ _ ⟨rfl, rfl⟩
  show Run Pg 44 _ _ _
  refine qN [] 1000 ⟨[(1, .d t66 x1), (5, .vec 202 t158), (6, .d t158 (0 : Int)), (7, .d t2 x5), (8, .d t158 (List.getD x3 (toN x5) (0 : Int))), (9, .d t158 o34), (13, .d t66 x3), (14, .d t2 x4), (15, .d t2 x5)], [(202, .vec 158 t158 x6)]⟩ aN ?_
  refine Run.sq ?_
  refine qN [] 1100 ⟨[(1, .d t66 x1), (5, .vec 202 t158), (6, .d t158 (0 : Int)), (7, .d t2 x5), (8, .d t158 (List.getD x3 (toN x5) (0 : Int))), (9, .d t158 o34), (13, .d t66 x3), (14, .d t2 x4), (15, .d t2 x5), (33, .d t4 (decide ((List.getD x3 (toN x5) (0 : Int)) < o34)))], [(202, .vec 158 t158 x6)]⟩ aN ?_
  obtain ⟨o44, h_o44, h⟩ := bnd_elim h
  refine Run.mono (f220_c2_ok x1 (0 : Int) x5 (List.getD x3 (toN x5) (0 : Int)) o34 x3 x4 (decide ((List.getD x3 (toN x5) (0 : Int)) < o34)) x6 h_o44) ?_
  rintro _ _ ⟨rfl, rfl⟩
  show Run Pg 44 _ _ _
  obtain ⟨g_0, h⟩ := gd_elim h
  obtain ⟨g_1, h⟩ := gd_elim h
  obtain ⟨g_2, h⟩ := gd_elim h
  refine qE [] 1300 ⟨[(1, .d t66 x1), (5, .vec 202 t158), (6, .d t158 o44.1), (13, .d t66 x3), (14, .d t2 x4), (15, .d t2 x5)], [(202, .vec 158 t158 (List.set x6 (toN x5) (wrapI .u32 (o44.2 - o34))))]⟩ (aC g_0 (aC g_1 (aC g_2 aN))) ?_
  show Run Pg 44 _ _ _
  refine qE [] 1400 ⟨[(1, .d t66 x1), (5, .vec 202 t158), (6, .d t158 o44.1), (13, .d t66 x3), (14, .d t2 x4), (15, .d t2 (wrapI .i64 (x5 + (1 : Int))))], [(202, .vec 158 t158 (List.set x6 (toN x5) (wrapI .u32 (o44.2 - o34))))]⟩ aN ?_
  exact ⟨m, Nat.lt_succ_self m, _, _, _, rfl, h⟩
 ·replace h := bif_f h hb
  refine qK ⟨[(5, .vec 202 t158)], [(202, .vec 158 t158 x6)]⟩ ?_
  refine Run.ex 0 ?_
  obtain rfl := sI h
  exact ⟨rfl, by kernel_rfl⟩
def F220 (a0 : List Int) (a1 : List Int) : Option ((List Int)) :=
 gd (0 ≤ (ofN (List.length a0))) <|
 gd ((ofN (List.length a0)) ≤ (ofN (List.length a0))) <|
 gd ((ofN (List.length a0)) ≤ 1073741824) <|
 ((f220_l0 a1 a0 (ofN (List.length a0)) (2 + List.length a1 + List.length a0 + List.length (List.replicate (toN (ofN (List.length a0))) (0 : Int))) ((0 : Int), (0 : Int), (List.replicate (toN (ofN (List.length a0))) (0 : Int)))).bind fun o45 =>
 some o45)
theorem c220 {a0 : List Int} {a1 : List Int} {r : (List Int)} (h : F220 a0 a1 = some r) : CallPure Pg 220 [(.d t66 a0), (.d t66 a1)] (.d t66 r) := by
 refine qC c_220 44 [.tmp 4] [66] Go.Proofs.Tryz.func220 ?_
 show Run Pg 44 c_220 ⟨[(0, .d t66 a0), (1, .d t66 a1)], []⟩ (fin220 r)
 unfold F220 at h
 refine qN [] 100 ⟨[(0, .d t66 a0), (1, .d t66 a1)], []⟩ aN ?_
 obtain ⟨g_0, h⟩ := gd_elim h
 obtain ⟨g_1, h⟩ := gd_elim h
 obtain ⟨g_2, h⟩ := gd_elim h
 refine qN [] 200 ⟨[(0, .d t66 a0), (1, .d t66 a1), (5, .vec 202 t158)], [(202, .vec 158 t158 (List.replicate (toN (ofN (List.length a0))) (0 : Int)))]⟩ (aC g_0 (aC g_1 (aC g_2 aN))) ?_
 refine qN [] 300 ⟨[(0, .d t66 a0), (1, .d t66 a1), (5, .vec 202 t158), (6, .d t158 (0 : Int))], [(202, .vec 158 t158 (List.replicate (toN (ofN (List.length a0))) (0 : Int)))]⟩ aN ?_
 refine Run.sq ?_
 refine qN [] 400 ⟨[(1, .d t66 a1), (5, .vec 202 t158), (6, .d t158 (0 : Int)), (13, .d t66 a0), (14, .d t2 (ofN (List.length a0))), (15, .d t2 (0 : Int))], [(202, .vec 158 t158 (List.replicate (toN (ofN (List.length a0))) (0 : Int)))]⟩ aN ?_
 refine Run.bl 0 ?_
 obtain ⟨o45, h_o45, h⟩ := bnd_elim h
 refine Run.mono (f220_l0_ok a1 a0 (ofN (List.length a0)) _ (0 : Int) (0 : Int) (List.replicate (toN (ofN (List.length a0))) (0 : Int)) h_o45) ?_
 rintro _ _ ⟨rfl, rfl⟩
 show Run Pg 44 _ _ _
 refine qN [] 1500 ⟨[(4, .vec 202 t158)], [(202, .vec 158 t158 o45)]⟩ aN ?_
 refine Run.freeze (s' := ⟨[(4, .d t66 o45)], []⟩) 202 (by kernel_rfl) ?_
 refine Run.rt ?_
 obtain rfl := sI h
 exact qR [(.d t66 o45)]

/-! ## f198 -/
noncomputable def c_198 : Code := body0 Go.Proofs.Tryz.f198
def fin198 (r : IntL) : Ex → St → Prop := endK X0 [.cell 4 68] [68] (.d t67 r)
def f198_c0_post (x4 : Bool) (x5 : IntL) (x6 : IntL) (x7 : IntL) : RatL → Ex → St → Prop
 | o, x, s => x = .nrm ∧ s = ⟨[(2, .ptr 100 0), (3, .ptr 101 0), (4, .ptr 102 0)], [(100, bx 68 t67 o.1), (101, bx 68 t67 o.2), (102, bx 68 t67 x7)]⟩
def f198_c0 (x4 : Bool) (x5 : IntL) (x6 : IntL) : Option RatL :=
 (bif x4 then
 some (x6, x5)
 else
 some (x5, x6))
theorem f198_c0_ok (x4 : Bool) (x5 : IntL) (x6 : IntL) (x7 : IntL) {out : RatL} (h : f198_c0 x4 x5 x6 = some out) : Run Pg 34 (sq2 (sq1 (sq2 (sq2 c_198)))) ⟨[(2, .ptr 100 0), (3, .ptr 101 0), (4, .ptr 102 0), (23, .d t4 x4)], [(100, bx 68 t67 x5), (101, bx 68 t67 x6), (102, bx 68 t67 x7)]⟩ (f198_c0_post x4 x5 x6 x7 out) := by
 unfold f198_c0 at h
 refine Run.cd x4 (fun hb => ?_) (fun hb => ?_)
 ·replace h := bif_t h hb
  refine qE [] 500 ⟨[(2, .ptr 100 0), (3, .ptr 101 0), (4, .ptr 102 0)], [(100, bx 68 t67 x6), (101, bx 68 t67 x5), (102, bx 68 t67 x7)]⟩ aN ?_
  obtain rfl := sI h
  exact ⟨rfl, by kernel_rfl⟩
 ·replace h := bif_f h hb
  refine qK ⟨[(2, .ptr 100 0), (3, .ptr 101 0), (4, .ptr 102 0)], [(100, bx 68 t67 x5), (101, bx 68 t67 x6), (102, bx 68 t67 x7)]⟩ ?_
  refine Run.sk ?_
  obtain rfl := sI h
  exact ⟨rfl, by kernel_rfl⟩
def F198 (a0 : IntL) (a1 : IntL) : Option (IntL) :=
 (bif (a0.1 == a1.1) then
 (F219 a0.2 a1.2).bind fun y1 =>
 (F106 a0.1 y1).bind fun y2 =>
 some y2
 else
 (F114 a0.2 a1.2).bind fun y3 =>
 ((f198_c0 (decide (y3 < (0 : Int))) a0 a1).bind fun o8 =>
 (F220 o8.1.2 o8.2.2).bind fun y9 =>
 (F106 o8.1.1 y9).bind fun y10 =>
 some y10))
theorem c198 {a0 : IntL} {a1 : IntL} {r : IntL} (h : F198 a0 a1 = some r) : CallPure Pg 198 [(.d t67 a0), (.d t67 a1)] (.d t67 r) := by
 refine qC c_198 34 [.cell 4 68] [68] Go.Proofs.Tryz.func198 ?_
 show Run Pg 34 c_198 ⟨[(0, .d t67 a0), (1, .d t67 a1)], []⟩ (fin198 r)
 unfold F198 at h
 refine qN [] 100 ⟨[(2, .ptr 100 0), (3, .ptr 101 0), (4, .ptr 102 0)], [(100, bx 68 t67 a0), (101, bx 68 t67 a1), (102, bx 68 t67 (false, ([] : List Int)))]⟩ aN ?_
 refine Run.sq ?_
 refine qN [] 200 ⟨[(2, .ptr 100 0), (3, .ptr 101 0), (4, .ptr 102 0), (9, .d t4 (a0.1 == a1.1))], [(100, bx 68 t67 a0), (101, bx 68 t67 a1), (102, bx 68 t67 (false, ([] : List Int)))]⟩ aN ?_
 refine Run.cd (a0.1 == a1.1) (fun hb => ?_) (fun hb => ?_)
 ·replace h := bif_t h hb
  obtain ⟨y1, h_y1, h⟩ := bnd_elim h
  obtain ⟨y2, h_y2, h⟩ := bnd_elim h
  refine qN [(6, .call (.d t66 y1)), (7, .call (.d t67 y2))] 300 ⟨[(4, .ptr 102 0)], [(102, bx 68 t67 y2)]⟩ (aC (c219 h_y1) (aC (c106 h_y2) aN)) ?_
  refine Run.rt ?_
  obtain rfl := sI h
  exact qR [(.d t67 y2)]
 ·replace h := bif_f h hb
  refine Run.sk ?_
  show Run Pg 34 _ _ _
  refine Run.sq ?_
  obtain ⟨y3, h_y3, h⟩ := bnd_elim h
  refine qN [(4, .call (.d t2 y3))] 400 ⟨[(2, .ptr 100 0), (3, .ptr 101 0), (4, .ptr 102 0), (23, .d t4 (decide (y3 < (0 : Int))))], [(100, bx 68 t67 a0), (101, bx 68 t67 a1), (102, bx 68 t67 (false, ([] : List Int)))]⟩ (aC (c114 h_y3) aN) ?_
  obtain ⟨o8, h_o8, h⟩ := bnd_elim h
  refine Run.mono (f198_c0_ok (decide (y3 < (0 : Int))) a0 a1 (false, ([] : List Int)) h_o8) ?_
  rintro _ _ ⟨rfl, rfl⟩
  show Run Pg 34 _ _ _
  obtain ⟨y9, h_y9, h⟩ := bnd_elim h
  obtain ⟨y10, h_y10, h⟩ := bnd_elim h
  refine qN [(6, .call (.d t66 y9)), (7, .call (.d t67 y10))] 600 ⟨[(4, .ptr 102 0)], [(102, bx 68 t67 y10)]⟩ (aC (c220 h_y9) (aC (c106 h_y10) aN)) ?_
  refine Run.rt ?_
  obtain rfl := sI h
  exact qR [(.d t67 y10)]

/-! ## f197 -/
noncomputable def c_197 : Code := body0 Go.Proofs.Tryz.f197
def fin197 (r : IntL) : Ex → St → Prop := endK X0 [.cell 4 68] [68] (.d t67 r)
def F197 (a0 : IntL) (a1 : IntL) : Option (IntL) :=
 (bif (!a1.1) then
 (F198 a0 ((decide ((0 : Int) < (ofN (List.length a1.2)))), a1.2)).bind fun y1 =>
 some y1
 else
 (F198 a0 (false, a1.2)).bind fun y2 =>
 some y2)
theorem c197 {a0 : IntL} {a1 : IntL} {r : IntL} (h : F197 a0 a1 = some r) : CallPure Pg 197 [(.d t67 a0), (.d t67 a1)] (.d t67 r) := by
 refine qC c_197 18 [.cell 4 68] [68] Go.Proofs.Tryz.func197 ?_
 show Run Pg 18 c_197 ⟨[(0, .d t67 a0), (1, .d t67 a1)], []⟩ (fin197 r)
 unfold F197 at h
 refine qN [] 100 ⟨[(2, .ptr 100 0), (3, .ptr 101 0), (4, .ptr 102 0)], [(100, bx 68 t67 a0), (101, bx 68 t67 a1), (102, bx 68 t67 (false, ([] : List Int)))]⟩ aN ?_
 rcases bif_elim h with ⟨hb0, h⟩ | ⟨hb0, h⟩
 ·refine qN [(3, .b true)] 200 ⟨[(2, .ptr 100 0), (3, .ptr 101 0), (4, .ptr 102 0)], [(100, bx 68 t67 a0), (101, bx 68 t67 ((decide ((0 : Int) < (ofN (List.length a1.2)))), a1.2)), (102, bx 68 t67 (false, ([] : List Int)))]⟩ (aC hb0 aN) ?_
  obtain ⟨y1, h_y1, h⟩ := bnd_elim h
  refine qN [(2, .call (.d t67 y1))] 300 ⟨[(4, .ptr 102 0)], [(102, bx 68 t67 y1)]⟩ (aC (c198 h_y1) aN) ?_
  refine Run.rt ?_
  obtain rfl := sI h
  exact qR [(.d t67 y1)]
 ·refine qN [(3, .b false)] 200 ⟨[(2, .ptr 100 0), (3, .ptr 101 0), (4, .ptr 102 0)], [(100, bx 68 t67 a0), (101, bx 68 t67 (false, a1.2)), (102, bx 68 t67 (false, ([] : List Int)))]⟩ (aC hb0 aN) ?_
  obtain ⟨y2, h_y2, h⟩ := bnd_elim h
  refine qN [(2, .call (.d t67 y2))] 300 ⟨[(4, .ptr 102 0)], [(102, bx 68 t67 y2)]⟩ (aC (c198 h_y2) aN) ?_
  refine Run.rt ?_
  obtain rfl := sI h
  exact qR [(.d t67 y2)]

/-! ## f158 -/
noncomputable def c_158 : Code := body0 Go.Proofs.Tryz.f158
def fin158 (r : IntL × IntL × Int) : Ex → St → Prop := endK X0 [.cell 4 68, .cell 5 68, .tmp 6] [68, 68, 26] (.tup (.vcons (.d t67 r.1) (.vcons (.d t67 r.2.1) (.vcons (.d t2 r.2.2) .vnil))))
def f158_c0_post (x4 : Bool) (x5 : IntL) (x6 : IntL) (x7 : IntL) (x8 : IntL) : RatL → Ex → St → Prop
 | o, x, s => x = .nrm ∧ s = ⟨[(4, .ptr 102 0), (5, .ptr 103 0), (9, .ptr 511 0), (10, .ptr 512 0)], [(102, bx 68 t67 x6), (103, bx 68 t67 x6), (511, bx 68 t67 o.1), (512, bx 68 t67 o.2)]⟩
def f158_c0 (x4 : Bool) (x5 : IntL) (x7 : IntL) (x8 : IntL) : Option RatL :=
 (bif x4 then
 (F66 (1 : Int)).bind fun y12 =>
 (F197 x7 y12).bind fun y13 =>
 (F198 x8 x5).bind fun y14 =>
 some (y13, y14)
 else
 some (x7, x8))
theorem f158_c0_ok (x4 : Bool) (x5 : IntL) (x6 : IntL) (x7 : IntL) (x8 : IntL) {out : RatL} (h : f158_c0 x4 x5 x7 x8 = some out) : Run Pg 55 (sq2 (sq1 (sq2 (sq2 (sq2 (sq2 c_158)))))) ⟨[(3, .ptr 101 0), (4, .ptr 102 0), (5, .ptr 103 0), (9, .ptr 511 0), (10, .ptr 512 0), (46, .d t4 x4)], [(101, bx 68 t67 x5), (102, bx 68 t67 x6), (103, bx 68 t67 x6), (511, bx 68 t67 x7), (512, bx 68 t67 x8)]⟩ (f158_c0_post x4 x5 x6 x7 x8 out) := by
 unfold f158_c0 at h
 refine Run.cd x4 (fun hb => ?_) (fun hb => ?_)
 ·replace h := bif_t h hb
  obtain ⟨y12, h_y12, h⟩ := bnd_elim h
  obtain ⟨y13, h_y13, h⟩ := bnd_elim h
  obtain ⟨y14, h_y14, h⟩ := bnd_elim h
  refine qE [(1, .call (.d t67 y12)), (2, .call (.d t67 y13)), (5, .call (.d t67 y14))] 700 ⟨[(4, .ptr 102 0), (5, .ptr 103 0), (9, .ptr 511 0), (10, .ptr 512 0)], [(102, bx 68 t67 x6), (103, bx 68 t67 x6), (511, bx 68 t67 y13), (512, bx 68 t67 y14)]⟩ (aC (c66 h_y12) (aC (c197 h_y13) (aC (c198 h_y14) aN))) ?_
  obtain rfl := sI h
  exact ⟨rfl, by kernel_rfl⟩
 ·replace h := bif_f h hb
  refine qK ⟨[(4, .ptr 102 0), (5, .ptr 103 0), (9, .ptr 511 0), (10, .ptr 512 0)], [(102, bx 68 t67 x6), (103, bx 68 t67 x6), (511, bx 68 t67 x7), (512, bx 68 t67 x8)]⟩ ?_
  refine Run.sk ?_
  obtain rfl := sI h
  exact ⟨rfl, by kernel_rfl⟩
def F158 (a0 : IntL) (a1 : IntL) : Option (IntL × IntL × Int) :=
 (bif ((ofN (List.length a1.2)) == (0 : Int)) then
 some ((false, ([] : List Int)), (false, ([] : List Int)), (6 : Int))
 else
 (F157 a0.2 a1.2).bind fun y1 =>
 (F106 (!(a0.1 == a1.1)) y1.1).bind fun y2 =>
 (F106 a0.1 y1.2).bind fun y3 =>
 (bif (decide ((0 : Int) < (ofN (List.length y3.2)))) then
 ((f158_c0 (!(y3.1 == a1.1)) a1 y2 y3).bind fun o15 =>
 some (o15.1, o15.2, (0 : Int)))
 else
 some (y2, y3, (0 : Int))))
theorem c158 {a0 : IntL} {a1 : IntL} {r : IntL × IntL × Int} (h : F158 a0 a1 = some r) : CallPure Pg 158 [(.d t67 a0), (.d t67 a1)] (.tup (.vcons (.d t67 r.1) (.vcons (.d t67 r.2.1) (.vcons (.d t2 r.2.2) .vnil)))) := by
 refine qC c_158 55 [.cell 4 68, .cell 5 68, .tmp 6] [68, 68, 26] Go.Proofs.Tryz.func158 ?_
 show Run Pg 55 c_158 ⟨[(0, .d t67 a0), (1, .d t67 a1)], []⟩ (fin158 r)
 unfold F158 at h
 refine qN [] 100 ⟨[(2, .ptr 100 0), (3, .ptr 101 0), (4, .ptr 102 0), (5, .ptr 103 0)], [(100, bx 68 t67 a0), (101, bx 68 t67 a1), (102, bx 68 t67 (false, ([] : List Int))), (103, bx 68 t67 (false, ([] : List Int)))]⟩ aN ?_
 refine Run.sq ?_
 refine qN [] 200 ⟨[(2, .ptr 100 0), (3, .ptr 101 0), (4, .ptr 102 0), (5, .ptr 103 0), (14, .d t4 ((ofN (List.length a1.2)) == (0 : Int)))], [(100, bx 68 t67 a0), (101, bx 68 t67 a1), (102, bx 68 t67 (false, ([] : List Int))), (103, bx 68 t67 (false, ([] : List Int)))]⟩ aN ?_
 refine Run.cd ((ofN (List.length a1.2)) == (0 : Int)) (fun hb => ?_) (fun hb => ?_)
 ·replace h := bif_t h hb
  refine qN [] 300 ⟨[(4, .ptr 102 0), (5, .ptr 103 0), (6, .d t2 (6 : Int))], [(102, bx 68 t67 (false, ([] : List Int))), (103, bx 68 t67 (false, ([] : List Int)))]⟩ aN ?_
  refine Run.rt ?_
  obtain rfl := sI h
  exact qR [(.d t67 (false, ([] : List Int))), (.d t67 (false, ([] : List Int))), (.d t2 (6 : Int))]
 ·replace h := bif_f h hb
  refine Run.sk ?_
  show Run Pg 55 _ _ _
  obtain ⟨y1, h_y1, h⟩ := bnd_elim h
  refine qN [(4, .call (.tup (.vcons (.d t66 y1.1) (.vcons (.d t66 y1.2) .vnil))))] 400 ⟨[(2, .ptr 100 0), (3, .ptr 101 0), (4, .ptr 102 0), (5, .ptr 103 0), (7, .d t66 y1.1), (8, .d t66 y1.2)], [(100, bx 68 t67 a0), (101, bx 68 t67 a1), (102, bx 68 t67 (false, ([] : List Int))), (103, bx 68 t67 (false, ([] : List Int)))]⟩ (aC (c157 h_y1) aN) ?_
  obtain ⟨y2, h_y2, h⟩ := bnd_elim h
  obtain ⟨y3, h_y3, h⟩ := bnd_elim h
  refine qN [(6, .call (.d t67 y2)), (10, .call (.d t67 y3))] 500 ⟨[(3, .ptr 101 0), (4, .ptr 102 0), (5, .ptr 103 0), (9, .ptr 511 0), (10, .ptr 512 0)], [(101, bx 68 t67 a1), (102, bx 68 t67 (false, ([] : List Int))), (103, bx 68 t67 (false, ([] : List Int))), (511, bx 68 t67 y2), (512, bx 68 t67 y3)]⟩ (aC (c106 h_y2) (aC (c106 h_y3) aN)) ?_
  refine Run.sq ?_
  rcases bif_elim h with ⟨hb0, h⟩ | ⟨hb0, h⟩
  ·refine qN [(4, .b true)] 600 ⟨[(3, .ptr 101 0), (4, .ptr 102 0), (5, .ptr 103 0), (9, .ptr 511 0), (10, .ptr 512 0), (46, .d t4 (!(y3.1 == a1.1)))], [(101, bx 68 t67 a1), (102, bx 68 t67 (false, ([] : List Int))), (103, bx 68 t67 (false, ([] : List Int))), (511, bx 68 t67 y2), (512, bx 68 t67 y3)]⟩ (aC hb0 aN) ?_
   obtain ⟨o15, h_o15, h⟩ := bnd_elim h
   refine Run.mono (f158_c0_ok (!(y3.1 == a1.1)) a1 (false, ([] : List Int)) y2 y3 h_o15) ?_
   rintro _ _ ⟨rfl, rfl⟩
   show Run Pg 55 _ _ _
   refine qN [] 800 ⟨[(4, .ptr 102 0), (5, .ptr 103 0), (6, .d t2 (0 : Int))], [(102, bx 68 t67 o15.1), (103, bx 68 t67 o15.2)]⟩ aN ?_
   refine Run.rt ?_
   obtain rfl := sI h
   exact qR [(.d t67 o15.1), (.d t67 o15.2), (.d t2 (0 : Int))]
  ·refine qN [(4, .b false)] 600 ⟨[(3, .ptr 101 0), (4, .ptr 102 0), (5, .ptr 103 0), (9, .ptr 511 0), (10, .ptr 512 0), (46, .d t4 false)], [(101, bx 68 t67 a1), (102, bx 68 t67 (false, ([] : List Int))), (103, bx 68 t67 (false, ([] : List Int))), (511, bx 68 t67 y2), (512, bx 68 t67 y3)]⟩ (aC hb0 aN) ?_
   refine Run.cd false (fun hb => (by cases hb)) (fun hb => ?_)
   refine Run.sk ?_
   show Run Pg 55 _ _ _
   refine qN [] 800 ⟨[(4, .ptr 102 0), (5, .ptr 103 0), (6, .d t2 (0 : Int))], [(102, bx 68 t67 y2), (103, bx 68 t67 y3)]⟩ aN ?_
   refine Run.rt ?_
   obtain rfl := sI h
   exact qR [(.d t67 y2), (.d t67 y3), (.d t2 (0 : Int))]

/-! ## f111 -/
noncomputable def c_111 : Code := body0 Go.Proofs.Tryz.f111
def fin111 (r : IntL) : Ex → St → Prop := endK X0 [.cell 4 68] [68] (.d t67 r)
def F111 (a0 : IntL) (a1 : IntL) : Option (IntL) :=
 (F158 a0 a1).bind fun y1 =>
 some y1.1
theorem c111 {a0 : IntL} {a1 : IntL} {r : IntL} (h : F111 a0 a1 = some r) : CallPure Pg 111 [(.d t67 a0), (.d t67 a1)] (.d t67 r) := by
 refine qC c_111 16 [.cell 4 68] [68] Go.Proofs.Tryz.func111 ?_
 show Run Pg 16 c_111 ⟨[(0, .d t67 a0), (1, .d t67 a1)], []⟩ (fin111 r)
 unfold F111 at h
 refine qN [] 100 ⟨[(2, .ptr 100 0), (3, .ptr 101 0), (4, .ptr 102 0)], [(100, bx 68 t67 a0), (101, bx 68 t67 a1), (102, bx 68 t67 (false, ([] : List Int)))]⟩ aN ?_
 obtain ⟨y1, h_y1, h⟩ := bnd_elim h
 refine qN [(2, .call (.tup (.vcons (.d t67 y1.1) (.vcons (.d t67 y1.2.1) (.vcons (.d t2 y1.2.2) .vnil)))))] 200 ⟨[(4, .ptr 102 0), (5, .ptr 207 0)], [(102, bx 68 t67 (false, ([] : List Int))), (207, bx 68 t67 y1.1)]⟩ (aC (c158 h_y1) aN) ?_
 refine qN [] 300 ⟨[(4, .ptr 102 0)], [(102, bx 68 t67 y1.1)]⟩ aN ?_
 refine Run.rt ?_
 obtain rfl := sI h
 exact qR [(.d t67 y1.1)]

/-! ## f67 -/
noncomputable def c_67 : Code := body0 Go.Proofs.Tryz.f67
def fin67 (r : RatL) : Ex → St → Prop := endK X0 [.cell 4 70] [70] (.d t69 r)
def f67_c0_post (x2 : Bool) (x3 : IntL) (x4 : IntL) (x5 : RatL) : RatL → Ex → St → Prop
 | o, x, s => x = .nrm ∧ s = ⟨[(2, .ptr 100 0), (3, .ptr 101 0), (4, .ptr 102 0)], [(100, bx 68 t67 o.1), (101, bx 68 t67 o.2), (102, bx 70 t69 x5)]⟩
def f67_c0 (x2 : Bool) (x3 : IntL) (x4 : IntL) : Option RatL :=
 (bif x2 then
 (F109 x3).bind fun y8 =>
 (F109 x4).bind fun y9 =>
 some (y8, y9)
 else
 some (x3, x4))
theorem f67_c0_ok (x2 : Bool) (x3 : IntL) (x4 : IntL) (x5 : RatL) {out : RatL} (h : f67_c0 x2 x3 x4 = some out) : Run Pg 29 (sq2 (sq1 (sq2 c_67))) ⟨[(2, .ptr 100 0), (3, .ptr 101 0), (4, .ptr 102 0), (8, .d t4 x2)], [(100, bx 68 t67 x3), (101, bx 68 t67 x4), (102, bx 70 t69 x5)]⟩ (f67_c0_post x2 x3 x4 x5 out) := by
 unfold f67_c0 at h
 refine Run.cd x2 (fun hb => ?_) (fun hb => ?_)
 ·replace h := bif_t h hb
  obtain ⟨y8, h_y8, h⟩ := bnd_elim h
  obtain ⟨y9, h_y9, h⟩ := bnd_elim h
  refine qE [(1, .call (.d t67 y8)), (3, .call (.d t67 y9))] 300 ⟨[(2, .ptr 100 0), (3, .ptr 101 0), (4, .ptr 102 0)], [(100, bx 68 t67 y8), (101, bx 68 t67 y9), (102, bx 70 t69 x5)]⟩ (aC (c109 h_y8) (aC (c109 h_y9) aN)) ?_
  obtain rfl := sI h
  exact ⟨rfl, by kernel_rfl⟩
 ·replace h := bif_f h hb
  refine qK ⟨[(2, .ptr 100 0), (3, .ptr 101 0), (4, .ptr 102 0)], [(100, bx 68 t67 x3), (101, bx 68 t67 x4), (102, bx 70 t69 x5)]⟩ ?_
  refine Run.sk ?_
  obtain rfl := sI h
  exact ⟨rfl, by kernel_rfl⟩
def f67_c1_post (x14 : Bool) (x15 : IntL) (x16 : IntL) (x17 : RatL) (x18 : IntL) : RatL → Ex → St → Prop
 | o, x, s => x = .nrm ∧ s = ⟨[(2, .ptr 100 0), (3, .ptr 101 0), (4, .ptr 102 0)], [(100, bx 68 t67 o.1), (101, bx 68 t67 o.2), (102, bx 70 t69 x17)]⟩
def f67_c1 (x14 : Bool) (x15 : IntL) (x16 : IntL) (x18 : IntL) : Option RatL :=
 (bif x14 then
 (F111 x15 x18).bind fun y21 =>
 (F111 x16 x18).bind fun y22 =>
 some (y21, y22)
 else
 some (x15, x16))
theorem f67_c1_ok (x14 : Bool) (x15 : IntL) (x16 : IntL) (x17 : RatL) (x18 : IntL) {out : RatL} (h : f67_c1 x14 x15 x16 x18 = some out) : Run Pg 29 (sq2 (sq2 (sq1 (sq2 (sq2 c_67))))) ⟨[(2, .ptr 100 0), (3, .ptr 101 0), (4, .ptr 102 0), (5, .ptr 403 0), (19, .d t4 x14)], [(100, bx 68 t67 x15), (101, bx 68 t67 x16), (102, bx 70 t69 x17), (403, bx 68 t67 x18)]⟩ (f67_c1_post x14 x15 x16 x17 x18 out) := by
 unfold f67_c1 at h
 refine Run.cd x14 (fun hb => ?_) (fun hb => ?_)
 ·replace h := bif_t h hb
  obtain ⟨y21, h_y21, h⟩ := bnd_elim h
  obtain ⟨y22, h_y22, h⟩ := bnd_elim h
  refine qE [(2, .call (.d t67 y21)), (5, .call (.d t67 y22))] 600 ⟨[(2, .ptr 100 0), (3, .ptr 101 0), (4, .ptr 102 0)], [(100, bx 68 t67 y21), (101, bx 68 t67 y22), (102, bx 70 t69 x17)]⟩ (aC (c111 h_y21) (aC (c111 h_y22) aN)) ?_
  obtain rfl := sI h
  exact ⟨rfl, by kernel_rfl⟩
 ·replace h := bif_f h hb
  refine qK ⟨[(2, .ptr 100 0), (3, .ptr 101 0), (4, .ptr 102 0)], [(100, bx 68 t67 x15), (101, bx 68 t67 x16), (102, bx 70 t69 x17)]⟩ ?_
  refine Run.sk ?_
  obtain rfl := sI h
  exact ⟨rfl, by kernel_rfl⟩
def F67 (a0 : IntL) (a1 : IntL) : Option RatL :=
 (F108 a1).bind fun y1 =>
 ((f67_c0 (decide (y1 < (0 : Int))) a0 a1).bind fun o10 =>
 (F110 o10.1 o10.2).bind fun y11 =>
 (F105 ).bind fun y12 =>
 (F71 y11 y12).bind fun y13 =>
 ((f67_c1 (y13 != (0 : Int)) o10.1 o10.2 y11).bind fun o23 =>
 some (o23.1, o23.2)))
theorem c67 {a0 : IntL} {a1 : IntL} {r : RatL} (h : F67 a0 a1 = some r) : CallPure Pg 67 [(.d t67 a0), (.d t67 a1)] (.d t69 r) := by
 refine qC c_67 29 [.cell 4 70] [70] Go.Proofs.Tryz.func67 ?_
 show Run Pg 29 c_67 ⟨[(0, .d t67 a0), (1, .d t67 a1)], []⟩ (fin67 r)
 unfold F67 at h
 refine qN [] 100 ⟨[(2, .ptr 100 0), (3, .ptr 101 0), (4, .ptr 102 0)], [(100, bx 68 t67 a0), (101, bx 68 t67 a1), (102, bx 70 t69 ((false, ([] : List Int)), (false, ([] : List Int))))]⟩ aN ?_
 refine Run.sq ?_
 obtain ⟨y1, h_y1, h⟩ := bnd_elim h
 refine qN [(1, .call (.d t2 y1))] 200 ⟨[(2, .ptr 100 0), (3, .ptr 101 0), (4, .ptr 102 0), (8, .d t4 (decide (y1 < (0 : Int))))], [(100, bx 68 t67 a0), (101, bx 68 t67 a1), (102, bx 70 t69 ((false, ([] : List Int)), (false, ([] : List Int))))]⟩ (aC (c108 h_y1) aN) ?_
 obtain ⟨o10, h_o10, h⟩ := bnd_elim h
 refine Run.mono (f67_c0_ok (decide (y1 < (0 : Int))) a0 a1 ((false, ([] : List Int)), (false, ([] : List Int))) h_o10) ?_
 rintro _ _ ⟨rfl, rfl⟩
 show Run Pg 29 _ _ _
 refine Run.sq ?_
 obtain ⟨y11, h_y11, h⟩ := bnd_elim h
 refine qN [(2, .call (.d t67 y11))] 400 ⟨[(2, .ptr 100 0), (3, .ptr 101 0), (4, .ptr 102 0), (5, .ptr 403 0)], [(100, bx 68 t67 o10.1), (101, bx 68 t67 o10.2), (102, bx 70 t69 ((false, ([] : List Int)), (false, ([] : List Int)))), (403, bx 68 t67 y11)]⟩ (aC (c110 h_y11) aN) ?_
 obtain ⟨y12, h_y12, h⟩ := bnd_elim h
 obtain ⟨y13, h_y13, h⟩ := bnd_elim h
 refine qN [(1, .call (.d t67 y12)), (2, .call (.d t2 y13))] 500 ⟨[(2, .ptr 100 0), (3, .ptr 101 0), (4, .ptr 102 0), (5, .ptr 403 0), (19, .d t4 (y13 != (0 : Int)))], [(100, bx 68 t67 o10.1), (101, bx 68 t67 o10.2), (102, bx 70 t69 ((false, ([] : List Int)), (false, ([] : List Int)))), (403, bx 68 t67 y11)]⟩ (aC (c105 h_y12) (aC (c71 h_y13) aN)) ?_
 obtain ⟨o23, h_o23, h⟩ := bnd_elim h
 refine Run.mono (f67_c1_ok (y13 != (0 : Int)) o10.1 o10.2 ((false, ([] : List Int)), (false, ([] : List Int))) y11 h_o23) ?_
 rintro _ _ ⟨rfl, rfl⟩
 show Run Pg 29 _ _ _
 refine qN [] 700 ⟨[(4, .ptr 102 0)], [(102, bx 70 t69 (o23.1, o23.2))]⟩ aN ?_
 refine Run.rt ?_
 obtain rfl := sI h
 exact qR [(.d t69 (o23.1, o23.2))]

/-! ## f43 -/
noncomputable def c_43 : Code := body0 Go.Proofs.Tryz.f43
def fin43 (r : RatL) : Ex → St → Prop := endK X0 [.cell 4 70] [70] (.d t69 r)
def F43 (a0 : RatL) (a1 : RatL) : Option RatL :=
 (F68 a0.1 a1.1).bind fun y1 =>
 (F68 a0.2 a1.2).bind fun y2 =>
 (F67 y1 y2).bind fun y3 =>
 some y3
theorem c43 {a0 : RatL} {a1 : RatL} {r : RatL} (h : F43 a0 a1 = some r) : CallPure Pg 43 [(.d t69 a0), (.d t69 a1)] (.d t69 r) := by
 refine qC c_43 16 [.cell 4 70] [70] Go.Proofs.Tryz.func43 ?_
 show Run Pg 16 c_43 ⟨[(0, .d t69 a0), (1, .d t69 a1)], []⟩ (fin43 r)
 unfold F43 at h
 refine qN [] 100 ⟨[(2, .ptr 100 0), (3, .ptr 101 0), (4, .ptr 102 0)], [(100, bx 70 t69 a0), (101, bx 70 t69 a1), (102, bx 70 t69 ((false, ([] : List Int)), (false, ([] : List Int))))]⟩ aN ?_
 obtain ⟨y1, h_y1, h⟩ := bnd_elim h
 obtain ⟨y2, h_y2, h⟩ := bnd_elim h
 obtain ⟨y3, h_y3, h⟩ := bnd_elim h
 refine qN [(4, .call (.d t67 y1)), (9, .call (.d t67 y2)), (10, .call (.d t69 y3))] 200 ⟨[(4, .ptr 102 0)], [(102, bx 70 t69 y3)]⟩ (aC (c68 h_y1) (aC (c68 h_y2) (aC (c67 h_y3) aN))) ?_
 refine Run.rt ?_
 obtain rfl := sI h
 exact qR [(.d t69 y3)]

/-! ## f44 -/
noncomputable def c_44 : Code := body0 Go.Proofs.Tryz.f44
def fin44 (r : (RatL × RatL)) : Ex → St → Prop := endK X0 [.cell 4 87] [87] (.d t86 r)
def F44 (a0 : Int) (a1 : Int) : Option ((RatL × RatL)) :=
 (F42 a0).bind fun y1 =>
 (F42 a1).bind fun y2 =>
 some (y1, y2)
theorem c44 {a0 : Int} {a1 : Int} {r : (RatL × RatL)} (h : F44 a0 a1 = some r) : CallPure Pg 44 [(.d t2 a0), (.d t2 a1)] (.d t86 r) := by
 refine qC c_44 10 [.cell 4 87] [87] Go.Proofs.Tryz.func44 ?_
 show Run Pg 10 c_44 ⟨[(0, .d t2 a0), (1, .d t2 a1)], []⟩ (fin44 r)
 unfold F44 at h
 refine qN [] 100 ⟨[(0, .d t2 a0), (1, .d t2 a1), (4, .ptr 100 0)], [(100, bx 87 t86 (((false, ([] : List Int)), (false, ([] : List Int))), ((false, ([] : List Int)), (false, ([] : List Int)))))]⟩ aN ?_
 obtain ⟨y1, h_y1, h⟩ := bnd_elim h
 obtain ⟨y2, h_y2, h⟩ := bnd_elim h
 refine qN [(1, .call (.d t69 y1)), (3, .call (.d t69 y2))] 200 ⟨[(4, .ptr 100 0)], [(100, bx 87 t86 (y1, y2))]⟩ (aC (c42 h_y1) (aC (c42 h_y2) aN)) ?_
 refine Run.rt ?_
 obtain rfl := sI h
 exact qR [(.d t86 (y1, y2))]

/-! ## f221 -/
noncomputable def c_221 : Code := body0 Go.Proofs.Tryz.f221
def fin221 (r : RatL) : Ex → St → Prop := endK X0 [.cell 2 70] [70] (.d t69 r)
def F221 (a0 : RatL) : Option RatL :=
 (F109 a0.1).bind fun y1 =>
 some (y1, a0.2)
theorem c221 {a0 : RatL} {r : RatL} (h : F221 a0 = some r) : CallPure Pg 221 [(.d t69 a0)] (.d t69 r) := by
 refine qC c_221 9 [.cell 2 70] [70] Go.Proofs.Tryz.func221 ?_
 show Run Pg 9 c_221 ⟨[(0, .d t69 a0)], []⟩ (fin221 r)
 unfold F221 at h
 refine qN [] 100 ⟨[(1, .ptr 100 0), (2, .ptr 101 0)], [(100, bx 70 t69 a0), (101, bx 70 t69 ((false, ([] : List Int)), (false, ([] : List Int))))]⟩ aN ?_
 obtain ⟨y1, h_y1, h⟩ := bnd_elim h
 refine qN [(2, .call (.d t67 y1))] 200 ⟨[(2, .ptr 101 0)], [(101, bx 70 t69 (y1, a0.2))]⟩ (aC (c109 h_y1) aN) ?_
 refine Run.rt ?_
 obtain rfl := sI h
 exact qR [(.d t69 (y1, a0.2))]

/-! ## f200 -/
noncomputable def c_200 : Code := body0 Go.Proofs.Tryz.f200
def fin200 (r : RatL) : Ex → St → Prop := endK X0 [.cell 4 70] [70] (.d t69 r)
def F200 (a0 : RatL) (a1 : RatL) : Option RatL :=
 (F71 a0.2 a1.2).bind fun y1 =>
 (bif (y1 == (0 : Int)) then
 (F198 a0.1 a1.1).bind fun y2 =>
 (F67 y2 a0.2).bind fun y3 =>
 some y3
 else
 (F68 a0.1 a1.2).bind fun y4 =>
 (F68 a1.1 a0.2).bind fun y5 =>
 (F198 y4 y5).bind fun y6 =>
 (F68 a0.2 a1.2).bind fun y7 =>
 (F67 y6 y7).bind fun y8 =>
 some y8)
theorem c200 {a0 : RatL} {a1 : RatL} {r : RatL} (h : F200 a0 a1 = some r) : CallPure Pg 200 [(.d t69 a0), (.d t69 a1)] (.d t69 r) := by
 refine qC c_200 36 [.cell 4 70] [70] Go.Proofs.Tryz.func200 ?_
 show Run Pg 36 c_200 ⟨[(0, .d t69 a0), (1, .d t69 a1)], []⟩ (fin200 r)
 unfold F200 at h
 refine qN [] 100 ⟨[(2, .ptr 100 0), (3, .ptr 101 0), (4, .ptr 102 0)], [(100, bx 70 t69 a0), (101, bx 70 t69 a1), (102, bx 70 t69 ((false, ([] : List Int)), (false, ([] : List Int))))]⟩ aN ?_
 refine Run.sq ?_
 obtain ⟨y1, h_y1, h⟩ := bnd_elim h
 refine qN [(4, .call (.d t2 y1))] 200 ⟨[(2, .ptr 100 0), (3, .ptr 101 0), (4, .ptr 102 0), (10, .d t4 (y1 == (0 : Int)))], [(100, bx 70 t69 a0), (101, bx 70 t69 a1), (102, bx 70 t69 ((false, ([] : List Int)), (false, ([] : List Int))))]⟩ (aC (c71 h_y1) aN) ?_
 refine Run.cd (y1 == (0 : Int)) (fun hb => ?_) (fun hb => ?_)
 ·replace h := bif_t h hb
  obtain ⟨y2, h_y2, h⟩ := bnd_elim h
  obtain ⟨y3, h_y3, h⟩ := bnd_elim h
  refine qN [(4, .call (.d t67 y2)), (7, .call (.d t69 y3))] 300 ⟨[(4, .ptr 102 0)], [(102, bx 70 t69 y3)]⟩ (aC (c198 h_y2) (aC (c67 h_y3) aN)) ?_
  refine Run.rt ?_
  obtain rfl := sI h
  exact qR [(.d t69 y3)]
 ·replace h := bif_f h hb
  refine Run.sk ?_
  show Run Pg 36 _ _ _
  obtain ⟨y4, h_y4, h⟩ := bnd_elim h
  obtain ⟨y5, h_y5, h⟩ := bnd_elim h
  obtain ⟨y6, h_y6, h⟩ := bnd_elim h
  obtain ⟨y7, h_y7, h⟩ := bnd_elim h
  obtain ⟨y8, h_y8, h⟩ := bnd_elim h
  refine qN [(4, .call (.d t67 y4)), (9, .call (.d t67 y5)), (10, .call (.d t67 y6)), (15, .call (.d t67 y7)), (16, .call (.d t69 y8))] 400 ⟨[(4, .ptr 102 0)], [(102, bx 70 t69 y8)]⟩ (aC (c68 h_y4) (aC (c68 h_y5) (aC (c198 h_y6) (aC (c68 h_y7) (aC (c67 h_y8) aN))))) ?_
  refine Run.rt ?_
  obtain rfl := sI h
  exact qR [(.d t69 y8)]

/-! ## f199 -/
noncomputable def c_199 : Code := body0 Go.Proofs.Tryz.f199
def fin199 (r : RatL) : Ex → St → Prop := endK X0 [.cell 4 70] [70] (.d t69 r)
def F199 (a0 : RatL) (a1 : RatL) : Option RatL :=
 (F221 a1).bind fun y1 =>
 (F200 a0 y1).bind fun y2 =>
 some y2
theorem c199 {a0 : RatL} {a1 : RatL} {r : RatL} (h : F199 a0 a1 = some r) : CallPure Pg 199 [(.d t69 a0), (.d t69 a1)] (.d t69 r) := by
 refine qC c_199 9 [.cell 4 70] [70] Go.Proofs.Tryz.func199 ?_
 show Run Pg 9 c_199 ⟨[(0, .d t69 a0), (1, .d t69 a1)], []⟩ (fin199 r)
 unfold F199 at h
 refine qN [] 100 ⟨[(2, .ptr 100 0), (3, .ptr 101 0), (4, .ptr 102 0)], [(100, bx 70 t69 a0), (101, bx 70 t69 a1), (102, bx 70 t69 ((false, ([] : List Int)), (false, ([] : List Int))))]⟩ aN ?_
 obtain ⟨y1, h_y1, h⟩ := bnd_elim h
 obtain ⟨y2, h_y2, h⟩ := bnd_elim h
 refine qN [(2, .call (.d t69 y1)), (3, .call (.d t69 y2))] 200 ⟨[(4, .ptr 102 0)], [(102, bx 70 t69 y2)]⟩ (aC (c221 h_y1) (aC (c200 h_y2) aN)) ?_
 refine Run.rt ?_
 obtain rfl := sI h
 exact qR [(.d t69 y2)]

/-! ## f160 -/
noncomputable def c_160 : Code := body0 Go.Proofs.Tryz.f160
def fin160 (r : RatL) : Ex → St → Prop := endK X0 [.cell 4 70] [70] (.d t69 r)
def F160 (a0 : RatL) (a1 : RatL) : Option RatL :=
 (F199 a0 a1).bind fun y1 =>
 some y1
theorem c160 {a0 : RatL} {a1 : RatL} {r : RatL} (h : F160 a0 a1 = some r) : CallPure Pg 160 [(.d t69 a0), (.d t69 a1)] (.d t69 r) := by
 refine qC c_160 8 [.cell 4 70] [70] Go.Proofs.Tryz.func160 ?_
 show Run Pg 8 c_160 ⟨[(0, .d t69 a0), (1, .d t69 a1)], []⟩ (fin160 r)
 unfold F160 at h
 refine qN [] 100 ⟨[(2, .ptr 100 0), (3, .ptr 101 0), (4, .ptr 102 0)], [(100, bx 70 t69 a0), (101, bx 70 t69 a1), (102, bx 70 t69 ((false, ([] : List Int)), (false, ([] : List Int))))]⟩ aN ?_
 obtain ⟨y1, h_y1, h⟩ := bnd_elim h
 refine qN [(2, .call (.d t69 y1))] 200 ⟨[(4, .ptr 102 0)], [(102, bx 70 t69 y1)]⟩ (aC (c199 h_y1) aN) ?_
 refine Run.rt ?_
 obtain rfl := sI h
 exact qR [(.d t69 y1)]

/-! ## f115 -/
noncomputable def c_115 : Code := body0 Go.Proofs.Tryz.f115
def fin115 (r : (RatL × RatL)) : Ex → St → Prop := endK X0 [.cell 4 87] [87] (.d t86 r)
def F115 (a0 : RatL × RatL) (a1 : RatL × RatL) : Option ((RatL × RatL)) :=
 (F160 a1.1 a0.1).bind fun y1 =>
 (F160 a1.2 a0.2).bind fun y2 =>
 some (y1, y2)
theorem c115 {a0 : RatL × RatL} {a1 : RatL × RatL} {r : (RatL × RatL)} (h : F115 a0 a1 = some r) : CallPure Pg 115 [(.d t86 a0), (.d t86 a1)] (.d t86 r) := by
 refine qC c_115 16 [.cell 4 87] [87] Go.Proofs.Tryz.func115 ?_
 show Run Pg 16 c_115 ⟨[(0, .d t86 a0), (1, .d t86 a1)], []⟩ (fin115 r)
 unfold F115 at h
 refine qN [] 100 ⟨[(2, .ptr 100 0), (3, .ptr 101 0), (4, .ptr 102 0)], [(100, bx 87 t86 a0), (101, bx 87 t86 a1), (102, bx 87 t86 (((false, ([] : List Int)), (false, ([] : List Int))), ((false, ([] : List Int)), (false, ([] : List Int)))))]⟩ aN ?_
 obtain ⟨y1, h_y1, h⟩ := bnd_elim h
 obtain ⟨y2, h_y2, h⟩ := bnd_elim h
 refine qN [(4, .call (.d t69 y1)), (9, .call (.d t69 y2))] 200 ⟨[(4, .ptr 102 0)], [(102, bx 87 t86 (y1, y2))]⟩ (aC (c160 h_y1) (aC (c160 h_y2) aN)) ?_
 refine Run.rt ?_
 obtain rfl := sI h
 exact qR [(.d t86 (y1, y2))]

/-! ## f119 -/
noncomputable def c_119 : Code := body0 Go.Proofs.Tryz.f119
def fin119 (r : RatL) : Ex → St → Prop := endK X0 [.cell 4 70] [70] (.d t69 r)
def F119 (a0 : RatL) (a1 : RatL) : Option RatL :=
 (F43 a0 a1).bind fun y1 =>
 some y1
theorem c119 {a0 : RatL} {a1 : RatL} {r : RatL} (h : F119 a0 a1 = some r) : CallPure Pg 119 [(.d t69 a0), (.d t69 a1)] (.d t69 r) := by
 refine qC c_119 8 [.cell 4 70] [70] Go.Proofs.Tryz.func119 ?_
 show Run Pg 8 c_119 ⟨[(0, .d t69 a0), (1, .d t69 a1)], []⟩ (fin119 r)
 unfold F119 at h
 refine qN [] 100 ⟨[(2, .ptr 100 0), (3, .ptr 101 0), (4, .ptr 102 0)], [(100, bx 70 t69 a0), (101, bx 70 t69 a1), (102, bx 70 t69 ((false, ([] : List Int)), (false, ([] : List Int))))]⟩ aN ?_
 obtain ⟨y1, h_y1, h⟩ := bnd_elim h
 refine qN [(2, .call (.d t69 y1))] 200 ⟨[(4, .ptr 102 0)], [(102, bx 70 t69 y1)]⟩ (aC (c43 h_y1) aN) ?_
 refine Run.rt ?_
 obtain rfl := sI h
 exact qR [(.d t69 y1)]

/-! ## f116 -/
noncomputable def c_116 : Code := body0 Go.Proofs.Tryz.f116
def fin116 (r : RatL) : Ex → St → Prop := endK X0 [.cell 4 70] [70] (.d t69 r)
def F116 (a0 : RatL × RatL) (a1 : RatL × RatL) : Option RatL :=
 (F119 a0.1 a1.2).bind fun y1 =>
 (F119 a0.2 a1.1).bind fun y2 =>
 (F160 y1 y2).bind fun y3 =>
 some y3
theorem c116 {a0 : RatL × RatL} {a1 : RatL × RatL} {r : RatL} (h : F116 a0 a1 = some r) : CallPure Pg 116 [(.d t86 a0), (.d t86 a1)] (.d t69 r) := by
 refine qC c_116 16 [.cell 4 70] [70] Go.Proofs.Tryz.func116 ?_
 show Run Pg 16 c_116 ⟨[(0, .d t86 a0), (1, .d t86 a1)], []⟩ (fin116 r)
 unfold F116 at h
 refine qN [] 100 ⟨[(2, .ptr 100 0), (3, .ptr 101 0), (4, .ptr 102 0)], [(100, bx 87 t86 a0), (101, bx 87 t86 a1), (102, bx 70 t69 ((false, ([] : List Int)), (false, ([] : List Int))))]⟩ aN ?_
 obtain ⟨y1, h_y1, h⟩ := bnd_elim h
 obtain ⟨y2, h_y2, h⟩ := bnd_elim h
 obtain ⟨y3, h_y3, h⟩ := bnd_elim h
 refine qN [(4, .call (.d t69 y1)), (9, .call (.d t69 y2)), (10, .call (.d t69 y3))] 200 ⟨[(4, .ptr 102 0)], [(102, bx 70 t69 y3)]⟩ (aC (c119 h_y1) (aC (c119 h_y2) (aC (c160 h_y3) aN))) ?_
 refine Run.rt ?_
 obtain rfl := sI h
 exact qR [(.d t69 y3)]

/-! ## f70 -/
noncomputable def c_70 : Code := body0 Go.Proofs.Tryz.f70
def fin70 (r : Int) : Ex → St → Prop := endK X0 [.tmp 2] [3] (.d t2 r)
def F70 (a0 : RatL) : Option (Int) :=
 (F108 a0.1).bind fun y1 =>
 some y1
theorem c70 {a0 : RatL} {r : Int} (h : F70 a0 = some r) : CallPure Pg 70 [(.d t69 a0)] (.d t2 r) := by
 refine qC c_70 6 [.tmp 2] [3] Go.Proofs.Tryz.func70 ?_
 show Run Pg 6 c_70 ⟨[(0, .d t69 a0)], []⟩ (fin70 r)
 unfold F70 at h
 refine qN [] 100 ⟨[(1, .ptr 100 0)], [(100, bx 70 t69 a0)]⟩ aN ?_
 obtain ⟨y1, h_y1, h⟩ := bnd_elim h
 refine qN [(2, .call (.d t2 y1))] 200 ⟨[(2, .d t2 y1)], []⟩ (aC (c108 h_y1) aN) ?_
 refine Run.rt ?_
 obtain rfl := sI h
 exact qR [(.d t2 y1)]

/-! ## f72 -/
noncomputable def c_72 : Code := body0 Go.Proofs.Tryz.f72
def fin72 (r : Bool) : Ex → St → Prop := endK X0 [.tmp 8] [4] (.d t4 r)
def F72 (a0 : RatL × RatL) (a1 : RatL × RatL) (a2 : RatL × RatL) (a3 : RatL × RatL) : Option (Bool) :=
 (F115 a0 a1).bind fun y1 =>
 (F115 a2 a3).bind fun y2 =>
 (F115 a0 a2).bind fun y3 =>
 (F116 y1 y3).bind fun y4 =>
 (F70 y4).bind fun y5 =>
 (F115 a0 a3).bind fun y6 =>
 (F116 y1 y6).bind fun y7 =>
 (F70 y7).bind fun y8 =>
 (bif (decide ((wrapI .i64 (y5 * y8)) < (0 : Int))) then
 (F115 a2 a0).bind fun y9 =>
 (F116 y2 y9).bind fun y10 =>
 (F70 y10).bind fun y11 =>
 (F115 a2 a1).bind fun y12 =>
 (F116 y2 y12).bind fun y13 =>
 (F70 y13).bind fun y14 =>
 some (decide ((wrapI .i64 (y11 * y14)) < (0 : Int)))
 else
 some false)
theorem c72 {a0 : RatL × RatL} {a1 : RatL × RatL} {a2 : RatL × RatL} {a3 : RatL × RatL} {r : Bool} (h : F72 a0 a1 a2 a3 = some r) : CallPure Pg 72 [(.d t86 a0), (.d t86 a1), (.d t86 a2), (.d t86 a3)] (.d t4 r) := by
 refine qC c_72 47 [.tmp 8] [4] Go.Proofs.Tryz.func72 ?_
 show Run Pg 47 c_72 ⟨[(0, .d t86 a0), (1, .d t86 a1), (2, .d t86 a2), (3, .d t86 a3)], []⟩ (fin72 r)
 unfold F72 at h
 refine qN [] 100 ⟨[(4, .ptr 100 0), (5, .ptr 101 0), (6, .ptr 102 0), (7, .ptr 103 0)], [(100, bx 87 t86 a0), (101, bx 87 t86 a1), (102, bx 87 t86 a2), (103, bx 87 t86 a3)]⟩ aN ?_
 obtain ⟨y1, h_y1, h⟩ := bnd_elim h
 obtain ⟨y2, h_y2, h⟩ := bnd_elim h
 refine qN [(2, .call (.d t86 y1)), (5, .call (.d t86 y2))] 200 ⟨[(4, .ptr 100 0), (5, .ptr 101 0), (6, .ptr 102 0), (7, .ptr 103 0), (9, .ptr 206 0), (10, .ptr 207 0)], [(100, bx 87 t86 a0), (101, bx 87 t86 a1), (102, bx 87 t86 a2), (103, bx 87 t86 a3), (206, bx 87 t86 y1), (207, bx 87 t86 y2)]⟩ (aC (c115 h_y1) (aC (c115 h_y2) aN)) ?_
 obtain ⟨y3, h_y3, h⟩ := bnd_elim h
 obtain ⟨y4, h_y4, h⟩ := bnd_elim h
 obtain ⟨y5, h_y5, h⟩ := bnd_elim h
 obtain ⟨y6, h_y6, h⟩ := bnd_elim h
 obtain ⟨y7, h_y7, h⟩ := bnd_elim h
 obtain ⟨y8, h_y8, h⟩ := bnd_elim h
 rcases bif_elim h with ⟨hb6, h⟩ | ⟨hb6, h⟩
 ·obtain ⟨y9, h_y9, h⟩ := bnd_elim h
  obtain ⟨y10, h_y10, h⟩ := bnd_elim h
  obtain ⟨y11, h_y11, h⟩ := bnd_elim h
  obtain ⟨y12, h_y12, h⟩ := bnd_elim h
  obtain ⟨y13, h_y13, h⟩ := bnd_elim h
  obtain ⟨y14, h_y14, h⟩ := bnd_elim h
  refine qN [(3, .call (.d t86 y3)), (4, .call (.d t69 y4)), (5, .call (.d t2 y5)), (9, .call (.d t86 y6)), (10, .call (.d t69 y7)), (11, .call (.d t2 y8)), (14, .b true), (18, .call (.d t86 y9)), (19, .call (.d t69 y10)), (20, .call (.d t2 y11)), (24, .call (.d t86 y12)), (25, .call (.d t69 y13)), (26, .call (.d t2 y14))] 300 ⟨[(8, .d t4 (decide ((wrapI .i64 (y11 * y14)) < (0 : Int))))], []⟩ (aC (c115 h_y3) (aC (c116 h_y4) (aC (c70 h_y5) (aC (c115 h_y6) (aC (c116 h_y7) (aC (c70 h_y8) (aC hb6 (aC (c115 h_y9) (aC (c116 h_y10) (aC (c70 h_y11) (aC (c115 h_y12) (aC (c116 h_y13) (aC (c70 h_y14) aN))))))))))))) ?_
  refine Run.rt ?_
  obtain rfl := sI h
  exact qR [(.d t4 (decide ((wrapI .i64 (y11 * y14)) < (0 : Int))))]
 ·refine qN [(3, .call (.d t86 y3)), (4, .call (.d t69 y4)), (5, .call (.d t2 y5)), (9, .call (.d t86 y6)), (10, .call (.d t69 y7)), (11, .call (.d t2 y8)), (14, .b false)] 300 ⟨[(8, .d t4 false)], []⟩ (aC (c115 h_y3) (aC (c116 h_y4) (aC (c70 h_y5) (aC (c115 h_y6) (aC (c116 h_y7) (aC (c70 h_y8) (aC hb6 aN))))))) ?_
  refine Run.rt ?_
  obtain rfl := sI h
  exact qR [(.d t4 false)]

/-! ## f161 -/
noncomputable def c_161 : Code := body0 Go.Proofs.Tryz.f161
def fin161 (r : RatL) : Ex → St → Prop := endK X0 [.cell 4 70] [70] (.d t69 r)
def F161 (a0 : RatL) (a1 : RatL) : Option RatL :=
 (F200 a0 a1).bind fun y1 =>
 some y1
theorem c161 {a0 : RatL} {a1 : RatL} {r : RatL} (h : F161 a0 a1 = some r) : CallPure Pg 161 [(.d t69 a0), (.d t69 a1)] (.d t69 r) := by
 refine qC c_161 8 [.cell 4 70] [70] Go.Proofs.Tryz.func161 ?_
 show Run Pg 8 c_161 ⟨[(0, .d t69 a0), (1, .d t69 a1)], []⟩ (fin161 r)
 unfold F161 at h
 refine qN [] 100 ⟨[(2, .ptr 100 0), (3, .ptr 101 0), (4, .ptr 102 0)], [(100, bx 70 t69 a0), (101, bx 70 t69 a1), (102, bx 70 t69 ((false, ([] : List Int)), (false, ([] : List Int))))]⟩ aN ?_
 obtain ⟨y1, h_y1, h⟩ := bnd_elim h
 refine qN [(2, .call (.d t69 y1))] 200 ⟨[(4, .ptr 102 0)], [(102, bx 70 t69 y1)]⟩ (aC (c200 h_y1) aN) ?_
 refine Run.rt ?_
 obtain rfl := sI h
 exact qR [(.d t69 y1)]

/-! ## f117 -/
noncomputable def c_117 : Code := body0 Go.Proofs.Tryz.f117
def fin117 (r : RatL) : Ex → St → Prop := endK X0 [.cell 4 70] [70] (.d t69 r)
def F117 (a0 : RatL × RatL) (a1 : RatL × RatL) : Option RatL :=
 (F119 a0.1 a1.1).bind fun y1 =>
 (F119 a0.2 a1.2).bind fun y2 =>
 (F161 y1 y2).bind fun y3 =>
 some y3
theorem c117 {a0 : RatL × RatL} {a1 : RatL × RatL} {r : RatL} (h : F117 a0 a1 = some r) : CallPure Pg 117 [(.d t86 a0), (.d t86 a1)] (.d t69 r) := by
 refine qC c_117 16 [.cell 4 70] [70] Go.Proofs.Tryz.func117 ?_
 show Run Pg 16 c_117 ⟨[(0, .d t86 a0), (1, .d t86 a1)], []⟩ (fin117 r)
 unfold F117 at h
 refine qN [] 100 ⟨[(2, .ptr 100 0), (3, .ptr 101 0), (4, .ptr 102 0)], [(100, bx 87 t86 a0), (101, bx 87 t86 a1), (102, bx 70 t69 ((false, ([] : List Int)), (false, ([] : List Int))))]⟩ aN ?_
 obtain ⟨y1, h_y1, h⟩ := bnd_elim h
 obtain ⟨y2, h_y2, h⟩ := bnd_elim h
 obtain ⟨y3, h_y3, h⟩ := bnd_elim h
 refine qN [(4, .call (.d t69 y1)), (9, .call (.d t69 y2)), (10, .call (.d t69 y3))] 200 ⟨[(4, .ptr 102 0)], [(102, bx 70 t69 y3)]⟩ (aC (c119 h_y1) (aC (c119 h_y2) (aC (c161 h_y3) aN))) ?_
 refine Run.rt ?_
 obtain rfl := sI h
 exact qR [(.d t69 y3)]

/-! ## f113 -/
noncomputable def c_113 : Code := body0 Go.Proofs.Tryz.f113
def fin113 (r : Bool) : Ex → St → Prop := endK X0 [.tmp 2] [4] (.d t4 r)
def F113 (a0 : Int) : Option (Bool) :=
 some (a0 != a0)
theorem c113 {a0 : Int} {r : Bool} (h : F113 a0 = some r) : CallPure Pg 113 [(.d t2 a0)] (.d t4 r) := by
 refine qC c_113 6 [.tmp 2] [4] Go.Proofs.Tryz.func113 ?_
 show Run Pg 6 c_113 ⟨[(0, .d t2 a0)], []⟩ (fin113 r)
 unfold F113 at h
 refine qN [] 100 ⟨[(0, .d t2 a0)], []⟩ aN ?_
 refine qN [] 200 ⟨[(2, .d t4 (a0 != a0))], []⟩ aN ?_
 refine Run.rt ?_
 obtain rfl := sI h
 exact qR [(.d t4 (a0 != a0))]

/-! ## f69 -/
noncomputable def c_69 : Code := body0 Go.Proofs.Tryz.f69
def fin69 (r : Int) : Ex → St → Prop := endK X0 [.tmp 4] [3] (.d t2 r)
def F69 (a0 : Int) (a1 : Int) : Option (Int) :=
 (F113 a0).bind fun y1 =>
 (F113 a1).bind fun y2 =>
 (bif y1 then
 (bif y2 then
 some (0 : Int)
 else
 some (-1 : Int))
 else
 (bif y2 then
 some (1 : Int)
 else
 (bif (decide (a0 < a1)) then
 some (-1 : Int)
 else
 (bif (decide (a1 < a0)) then
 some (1 : Int)
 else
 some (0 : Int)))))
theorem c69 {a0 : Int} {a1 : Int} {r : Int} (h : F69 a0 a1 = some r) : CallPure Pg 69 [(.d t2 a0), (.d t2 a1)] (.d t2 r) := by
 refine qC c_69 20 [.tmp 4] [3] Go.Proofs.Tryz.func69 ?_
 show Run Pg 20 c_69 ⟨[(0, .d t2 a0), (1, .d t2 a1)], []⟩ (fin69 r)
 unfold F69 at h
 refine qN [] 100 ⟨[(0, .d t2 a0), (1, .d t2 a1)], []⟩ aN ?_
 obtain ⟨y1, h_y1, h⟩ := bnd_elim h
 refine qN [(1, .call (.d t4 y1))] 200 ⟨[(0, .d t2 a0), (1, .d t2 a1), (5, .d t4 y1)], []⟩ (aC (c113 h_y1) aN) ?_
 obtain ⟨y2, h_y2, h⟩ := bnd_elim h
 refine qN [(1, .call (.d t4 y2))] 300 ⟨[(0, .d t2 a0), (1, .d t2 a1), (5, .d t4 y1), (6, .d t4 y2)], []⟩ (aC (c113 h_y2) aN) ?_
 refine Run.sq ?_
 refine qN [] 400 ⟨[(0, .d t2 a0), (1, .d t2 a1), (6, .d t4 y2), (11, .d t4 y1)], []⟩ aN ?_
 refine Run.cd y1 (fun hb => ?_) (fun hb => ?_)
 ·replace h := bif_t h hb
  refine Run.sq ?_
  refine qN [] 500 ⟨[(12, .d t4 y2)], []⟩ aN ?_
  refine Run.cd y2 (fun hb => ?_) (fun hb => ?_)
  ·replace h := bif_t h hb
   refine qN [] 600 ⟨[(4, .d t2 (0 : Int))], []⟩ aN ?_
   refine Run.rt ?_
   obtain rfl := sI h
   exact qR [(.d t2 (0 : Int))]
  ·replace h := bif_f h hb
   refine Run.sk ?_
   show Run Pg 20 _ _ _
   refine qN [] 700 ⟨[(4, .d t2 (-1 : Int))], []⟩ aN ?_
   refine Run.rt ?_
   obtain rfl := sI h
   exact qR [(.d t2 (-1 : Int))]
 ·replace h := bif_f h hb
  refine Run.sk ?_
  show Run Pg 20 _ _ _
  refine Run.sq ?_
  refine qN [] 800 ⟨[(0, .d t2 a0), (1, .d t2 a1), (13, .d t4 y2)], []⟩ aN ?_
  refine Run.cd y2 (fun hb => ?_) (fun hb => ?_)
  ·replace h := bif_t h hb
   refine qN [] 900 ⟨[(4, .d t2 (1 : Int))], []⟩ aN ?_
   refine Run.rt ?_
   obtain rfl := sI h
   exact qR [(.d t2 (1 : Int))]
  ·replace h := bif_f h hb
   refine Run.sk ?_
   show Run Pg 20 _ _ _
   refine Run.sq ?_
   refine qN [] 1000 ⟨[(0, .d t2 a0), (1, .d t2 a1), (16, .d t4 (decide (a0 < a1)))], []⟩ aN ?_
   refine Run.cd (decide (a0 < a1)) (fun hb => ?_) (fun hb => ?_)
   ·replace h := bif_t h hb
    refine qN [] 1100 ⟨[(4, .d t2 (-1 : Int))], []⟩ aN ?_
    refine Run.rt ?_
    obtain rfl := sI h
    exact qR [(.d t2 (-1 : Int))]
   ·replace h := bif_f h hb
    refine Run.sk ?_
    show Run Pg 20 _ _ _
    refine Run.sq ?_
    refine qN [] 1200 ⟨[(19, .d t4 (decide (a1 < a0)))], []⟩ aN ?_
    refine Run.cd (decide (a1 < a0)) (fun hb => ?_) (fun hb => ?_)
    ·replace h := bif_t h hb
     refine qN [] 1300 ⟨[(4, .d t2 (1 : Int))], []⟩ aN ?_
     refine Run.rt ?_
     obtain rfl := sI h
     exact qR [(.d t2 (1 : Int))]
    ·replace h := bif_f h hb
     refine Run.sk ?_
     show Run Pg 20 _ _ _
     refine qN [] 1400 ⟨[(4, .d t2 (0 : Int))], []⟩ aN ?_
     refine Run.rt ?_
     obtain rfl := sI h
     exact qR [(.d t2 (0 : Int))]

/-! ## f45 -/
noncomputable def c_45 : Code := body0 Go.Proofs.Tryz.f45
def fin45 (r : Int) : Ex → St → Prop := endK X0 [.tmp 4] [3] (.d t2 r)
def F45 (a0 : RatL) (a1 : RatL) : Option (Int) :=
 (F70 a0).bind fun y1 =>
 (F70 a1).bind fun y2 =>
 (F69 y1 y2).bind fun y3 =>
 (bif (y3 != (0 : Int)) then
 some y3
 else
 (F68 a0.1 a1.2).bind fun y4 =>
 (F68 a1.1 a0.2).bind fun y5 =>
 (F71 y4 y5).bind fun y6 =>
 some y6)
theorem c45 {a0 : RatL} {a1 : RatL} {r : Int} (h : F45 a0 a1 = some r) : CallPure Pg 45 [(.d t69 a0), (.d t69 a1)] (.d t2 r) := by
 refine qC c_45 25 [.tmp 4] [3] Go.Proofs.Tryz.func45 ?_
 show Run Pg 25 c_45 ⟨[(0, .d t69 a0), (1, .d t69 a1)], []⟩ (fin45 r)
 unfold F45 at h
 refine qN [] 100 ⟨[(2, .ptr 100 0), (3, .ptr 101 0)], [(100, bx 70 t69 a0), (101, bx 70 t69 a1)]⟩ aN ?_
 refine Run.sq ?_
 obtain ⟨y1, h_y1, h⟩ := bnd_elim h
 obtain ⟨y2, h_y2, h⟩ := bnd_elim h
 obtain ⟨y3, h_y3, h⟩ := bnd_elim h
 refine qN [(1, .call (.d t2 y1)), (3, .call (.d t2 y2)), (4, .call (.d t2 y3))] 200 ⟨[(2, .ptr 100 0), (3, .ptr 101 0), (5, .d t2 y3)], [(100, bx 70 t69 a0), (101, bx 70 t69 a1)]⟩ (aC (c70 h_y1) (aC (c70 h_y2) (aC (c69 h_y3) aN))) ?_
 refine qN [] 300 ⟨[(2, .ptr 100 0), (3, .ptr 101 0), (5, .d t2 y3), (12, .d t4 (y3 != (0 : Int)))], [(100, bx 70 t69 a0), (101, bx 70 t69 a1)]⟩ aN ?_
 refine Run.cd (y3 != (0 : Int)) (fun hb => ?_) (fun hb => ?_)
 ·replace h := bif_t h hb
  refine qN [] 400 ⟨[(4, .d t2 y3)], []⟩ aN ?_
  refine Run.rt ?_
  obtain rfl := sI h
  exact qR [(.d t2 y3)]
 ·replace h := bif_f h hb
  refine Run.sk ?_
  show Run Pg 25 _ _ _
  obtain ⟨y4, h_y4, h⟩ := bnd_elim h
  obtain ⟨y5, h_y5, h⟩ := bnd_elim h
  obtain ⟨y6, h_y6, h⟩ := bnd_elim h
  refine qN [(4, .call (.d t67 y4)), (9, .call (.d t67 y5)), (10, .call (.d t2 y6))] 500 ⟨[(4, .d t2 y6)], []⟩ (aC (c68 h_y4) (aC (c68 h_y5) (aC (c71 h_y6) aN))) ?_
  refine Run.rt ?_
  obtain rfl := sI h
  exact qR [(.d t2 y6)]

/-! ## f162 -/
noncomputable def c_162 : Code := body0 Go.Proofs.Tryz.f162
def fin162 (r : RatL × Int) : Ex → St → Prop := endK X0 [.cell 4 70, .tmp 5] [70, 26] (.tup (.vcons (.d t69 r.1) (.vcons (.d t2 r.2) .vnil)))
def F162 (a0 : RatL) (a1 : RatL) : Option (RatL × Int) :=
 (F70 a1).bind fun y1 =>
 (bif (y1 == (0 : Int)) then
 some (((false, ([] : List Int)), (false, ([] : List Int))), (6 : Int))
 else
 (F68 a0.1 a1.2).bind fun y2 =>
 (F68 a0.2 a1.1).bind fun y3 =>
 (F67 y2 y3).bind fun y4 =>
 some (y4, (0 : Int)))
theorem c162 {a0 : RatL} {a1 : RatL} {r : RatL × Int} (h : F162 a0 a1 = some r) : CallPure Pg 162 [(.d t69 a0), (.d t69 a1)] (.tup (.vcons (.d t69 r.1) (.vcons (.d t2 r.2) .vnil))) := by
 refine qC c_162 21 [.cell 4 70, .tmp 5] [70, 26] Go.Proofs.Tryz.func162 ?_
 show Run Pg 21 c_162 ⟨[(0, .d t69 a0), (1, .d t69 a1)], []⟩ (fin162 r)
 unfold F162 at h
 refine qN [] 100 ⟨[(2, .ptr 100 0), (3, .ptr 101 0), (4, .ptr 102 0)], [(100, bx 70 t69 a0), (101, bx 70 t69 a1), (102, bx 70 t69 ((false, ([] : List Int)), (false, ([] : List Int))))]⟩ aN ?_
 refine Run.sq ?_
 obtain ⟨y1, h_y1, h⟩ := bnd_elim h
 refine qN [(1, .call (.d t2 y1))] 200 ⟨[(2, .ptr 100 0), (3, .ptr 101 0), (4, .ptr 102 0), (8, .d t4 (y1 == (0 : Int)))], [(100, bx 70 t69 a0), (101, bx 70 t69 a1), (102, bx 70 t69 ((false, ([] : List Int)), (false, ([] : List Int))))]⟩ (aC (c70 h_y1) aN) ?_
 refine Run.cd (y1 == (0 : Int)) (fun hb => ?_) (fun hb => ?_)
 ·replace h := bif_t h hb
  refine qN [] 300 ⟨[(4, .ptr 102 0), (5, .d t2 (6 : Int))], [(102, bx 70 t69 ((false, ([] : List Int)), (false, ([] : List Int))))]⟩ aN ?_
  refine Run.rt ?_
  obtain rfl := sI h
  exact qR [(.d t69 ((false, ([] : List Int)), (false, ([] : List Int)))), (.d t2 (6 : Int))]
 ·replace h := bif_f h hb
  refine Run.sk ?_
  show Run Pg 21 _ _ _
  obtain ⟨y2, h_y2, h⟩ := bnd_elim h
  obtain ⟨y3, h_y3, h⟩ := bnd_elim h
  obtain ⟨y4, h_y4, h⟩ := bnd_elim h
  refine qN [(4, .call (.d t67 y2)), (9, .call (.d t67 y3)), (10, .call (.d t69 y4))] 400 ⟨[(4, .ptr 102 0), (5, .d t2 (0 : Int))], [(102, bx 70 t69 y4)]⟩ (aC (c68 h_y2) (aC (c68 h_y3) (aC (c67 h_y4) aN))) ?_
  refine Run.rt ?_
  obtain rfl := sI h
  exact qR [(.d t69 y4), (.d t2 (0 : Int))]

/-! ## f118 -/
noncomputable def c_118 : Code := body0 Go.Proofs.Tryz.f118
def fin118 (r : RatL) : Ex → St → Prop := endK X0 [.cell 4 70] [70] (.d t69 r)
def F118 (a0 : RatL) (a1 : RatL) : Option RatL :=
 (F162 a0 a1).bind fun y1 =>
 (bif (y1.2 != (0 : Int)) then
 (F42 (0 : Int)).bind fun y2 =>
 some y2
 else
 some y1.1)
theorem c118 {a0 : RatL} {a1 : RatL} {r : RatL} (h : F118 a0 a1 = some r) : CallPure Pg 118 [(.d t69 a0), (.d t69 a1)] (.d t69 r) := by
 refine qC c_118 17 [.cell 4 70] [70] Go.Proofs.Tryz.func118 ?_
 show Run Pg 17 c_118 ⟨[(0, .d t69 a0), (1, .d t69 a1)], []⟩ (fin118 r)
 unfold F118 at h
 refine qN [] 100 ⟨[(2, .ptr 100 0), (3, .ptr 101 0), (4, .ptr 102 0)], [(100, bx 70 t69 a0), (101, bx 70 t69 a1), (102, bx 70 t69 ((false, ([] : List Int)), (false, ([] : List Int))))]⟩ aN ?_
 obtain ⟨y1, h_y1, h⟩ := bnd_elim h
 refine qN [(2, .call (.tup (.vcons (.d t69 y1.1) (.vcons (.d t2 y1.2) .vnil))))] 200 ⟨[(4, .ptr 102 0), (5, .ptr 206 0), (6, .d t2 y1.2)], [(102, bx 70 t69 ((false, ([] : List Int)), (false, ([] : List Int)))), (206, bx 70 t69 y1.1)]⟩ (aC (c162 h_y1) aN) ?_
 refine Run.sq ?_
 refine qN [] 300 ⟨[(4, .ptr 102 0), (5, .ptr 206 0), (14, .d t4 (y1.2 != (0 : Int)))], [(102, bx 70 t69 ((false, ([] : List Int)), (false, ([] : List Int)))), (206, bx 70 t69 y1.1)]⟩ aN ?_
 refine Run.cd (y1.2 != (0 : Int)) (fun hb => ?_) (fun hb => ?_)
 ·replace h := bif_t h hb
  obtain ⟨y2, h_y2, h⟩ := bnd_elim h
  refine qN [(0, .call (.d t69 y2))] 400 ⟨[(4, .ptr 102 0)], [(102, bx 70 t69 y2)]⟩ (aC (c42 h_y2) aN) ?_
  refine Run.rt ?_
  obtain rfl := sI h
  exact qR [(.d t69 y2)]
 ·replace h := bif_f h hb
  refine Run.sk ?_
  show Run Pg 17 _ _ _
  refine qN [] 500 ⟨[(4, .ptr 102 0)], [(102, bx 70 t69 y1.1)]⟩ aN ?_
  refine Run.rt ?_
  obtain rfl := sI h
  exact qR [(.d t69 y1.1)]

/-! ## f73 -/
noncomputable def c_73 : Code := body0 Go.Proofs.Tryz.f73
def fin73 (r : RatL) : Ex → St → Prop := endK X0 [.cell 6 70] [70] (.d t69 r)
def F73 (a0 : RatL × RatL) (a1 : RatL × RatL) (a2 : RatL × RatL) : Option RatL :=
 (F115 a0 a1).bind fun y1 =>
 (F115 a0 a2).bind fun y2 =>
 (F117 y1 y1).bind fun y3 =>
 (F117 y1 y2).bind fun y4 =>
 (F70 y4).bind fun y5 =>
 (bif (decide (y5 ≤ (0 : Int))) then
 (F117 y2 y2).bind fun y6 =>
 some y6
 else
 (F45 y4 y3).bind fun y7 =>
 (bif (decide ((0 : Int) ≤ y7)) then
 (F115 a1 a2).bind fun y8 =>
 (F117 y8 y8).bind fun y9 =>
 some y9
 else
 (F116 y1 y2).bind fun y10 =>
 (F119 y10 y10).bind fun y11 =>
 (F118 y11 y3).bind fun y12 =>
 some y12))
theorem c73 {a0 : RatL × RatL} {a1 : RatL × RatL} {a2 : RatL × RatL} {r : RatL} (h : F73 a0 a1 a2 = some r) : CallPure Pg 73 [(.d t86 a0), (.d t86 a1), (.d t86 a2)] (.d t69 r) := by
 refine qC c_73 51 [.cell 6 70] [70] Go.Proofs.Tryz.func73 ?_
 show Run Pg 51 c_73 ⟨[(0, .d t86 a0), (1, .d t86 a1), (2, .d t86 a2)], []⟩ (fin73 r)
 unfold F73 at h
 refine qN [] 100 ⟨[(3, .ptr 100 0), (4, .ptr 101 0), (5, .ptr 102 0), (6, .ptr 103 0)], [(100, bx 87 t86 a0), (101, bx 87 t86 a1), (102, bx 87 t86 a2), (103, bx 70 t69 ((false, ([] : List Int)), (false, ([] : List Int))))]⟩ aN ?_
 obtain ⟨y1, h_y1, h⟩ := bnd_elim h
 obtain ⟨y2, h_y2, h⟩ := bnd_elim h
 refine qN [(2, .call (.d t86 y1)), (5, .call (.d t86 y2))] 200 ⟨[(4, .ptr 101 0), (5, .ptr 102 0), (6, .ptr 103 0), (7, .ptr 206 0), (8, .ptr 207 0)], [(101, bx 87 t86 a1), (102, bx 87 t86 a2), (103, bx 70 t69 ((false, ([] : List Int)), (false, ([] : List Int)))), (206, bx 87 t86 y1), (207, bx 87 t86 y2)]⟩ (aC (c115 h_y1) (aC (c115 h_y2) aN)) ?_
 obtain ⟨y3, h_y3, h⟩ := bnd_elim h
 obtain ⟨y4, h_y4, h⟩ := bnd_elim h
 refine qN [(2, .call (.d t69 y3)), (5, .call (.d t69 y4))] 300 ⟨[(4, .ptr 101 0), (5, .ptr 102 0), (6, .ptr 103 0), (7, .ptr 206 0), (8, .ptr 207 0), (9, .ptr 306 0), (10, .ptr 307 0)], [(101, bx 87 t86 a1), (102, bx 87 t86 a2), (103, bx 70 t69 ((false, ([] : List Int)), (false, ([] : List Int)))), (206, bx 87 t86 y1), (207, bx 87 t86 y2), (306, bx 70 t69 y3), (307, bx 70 t69 y4)]⟩ (aC (c117 h_y3) (aC (c117 h_y4) aN)) ?_
 refine Run.sq ?_
 refine Run.bl 0 ?_
 obtain ⟨y5, h_y5, h⟩ := bnd_elim h
 refine qN [(1, .call (.d t2 y5))] 400 ⟨[(4, .ptr 101 0), (5, .ptr 102 0), (6, .ptr 103 0), (7, .ptr 206 0), (8, .ptr 207 0), (9, .ptr 306 0), (10, .ptr 307 0), (25, .d t4 (decide (y5 ≤ (0 : Int))))], [(101, bx 87 t86 a1), (102, bx 87 t86 a2), (103, bx 70 t69 ((false, ([] : List Int)), (false, ([] : List Int)))), (206, bx 87 t86 y1), (207, bx 87 t86 y2), (306, bx 70 t69 y3), (307, bx 70 t69 y4)]⟩ (aC (c70 h_y5) aN) ?_
 refine Run.cd (decide (y5 ≤ (0 : Int))) (fun hb => ?_) (fun hb => ?_)
 ·replace h := bif_t h hb
  obtain ⟨y6, h_y6, h⟩ := bnd_elim h
  refine qN [(2, .call (.d t69 y6))] 500 ⟨[(6, .ptr 103 0)], [(103, bx 70 t69 y6)]⟩ (aC (c117 h_y6) aN) ?_
  refine Run.rt ?_
  obtain rfl := sI h
  exact qR [(.d t69 y6)]
 ·replace h := bif_f h hb
  obtain ⟨y7, h_y7, h⟩ := bnd_elim h
  refine qN [(2, .call (.d t2 y7))] 600 ⟨[(4, .ptr 101 0), (5, .ptr 102 0), (6, .ptr 103 0), (7, .ptr 206 0), (8, .ptr 207 0), (9, .ptr 306 0), (32, .d t4 (decide ((0 : Int) ≤ y7)))], [(101, bx 87 t86 a1), (102, bx 87 t86 a2), (103, bx 70 t69 ((false, ([] : List Int)), (false, ([] : List Int)))), (206, bx 87 t86 y1), (207, bx 87 t86 y2), (306, bx 70 t69 y3)]⟩ (aC (c45 h_y7) aN) ?_
  refine Run.cd (decide ((0 : Int) ≤ y7)) (fun hb => ?_) (fun hb => ?_)
  ·replace h := bif_t h hb
   obtain ⟨y8, h_y8, h⟩ := bnd_elim h
   refine qN [(2, .call (.d t86 y8))] 700 ⟨[(6, .ptr 103 0), (11, .ptr 703 0)], [(103, bx 70 t69 ((false, ([] : List Int)), (false, ([] : List Int)))), (703, bx 87 t86 y8)]⟩ (aC (c115 h_y8) aN) ?_
   obtain ⟨y9, h_y9, h⟩ := bnd_elim h
   refine qN [(2, .call (.d t69 y9))] 800 ⟨[(6, .ptr 103 0)], [(103, bx 70 t69 y9)]⟩ (aC (c117 h_y9) aN) ?_
   refine Run.rt ?_
   obtain rfl := sI h
   exact qR [(.d t69 y9)]
  ·replace h := bif_f h hb
   refine Run.sk ?_
   show Run Pg 51 _ _ _
   obtain ⟨y10, h_y10, h⟩ := bnd_elim h
   refine qN [(2, .call (.d t69 y10))] 900 ⟨[(6, .ptr 103 0), (9, .ptr 306 0), (12, .ptr 903 0)], [(103, bx 70 t69 ((false, ([] : List Int)), (false, ([] : List Int)))), (306, bx 70 t69 y3), (903, bx 70 t69 y10)]⟩ (aC (c116 h_y10) aN) ?_
   obtain ⟨y11, h_y11, h⟩ := bnd_elim h
   obtain ⟨y12, h_y12, h⟩ := bnd_elim h
   refine qN [(2, .call (.d t69 y11)), (4, .call (.d t69 y12))] 1000 ⟨[(6, .ptr 103 0)], [(103, bx 70 t69 y12)]⟩ (aC (c119 h_y11) (aC (c118 h_y12) aN)) ?_
   refine Run.rt ?_
   obtain rfl := sI h
   exact qR [(.d t69 y12)]

/-! ## f46 -/
noncomputable def c_46 : Code := body0 Go.Proofs.Tryz.f46
def fin46 (r : RatL) : Ex → St → Prop := endK X0 [.cell 8 70] [70] (.d t69 r)
def f46_c1_post (x22 : List RatL) (x23 : Int) (x24 : Int) (x25 : Bool) (x26 : RatL) (x27 : RatL) (x28 : RatL) : RatL → Ex → St → Prop
 | o, x, s => x = .nrm ∧ s = ⟨[(8, .ptr 104 0), (9, .ptr 404 0), (34, .d t119 x22), (35, .d t2 x23), (36, .d t2 x24)], [(104, bx 70 t69 x26), (404, bx 70 t69 o)]⟩
def f46_c1 (x25 : Bool) (x27 : RatL) (x28 : RatL) : Option RatL :=
 (bif x25 then
 some x28
 else
 some x27)
theorem f46_c1_ok (x22 : List RatL) (x23 : Int) (x24 : Int) (x25 : Bool) (x26 : RatL) (x27 : RatL) (x28 : RatL) {out : RatL} (h : f46_c1 x25 x27 x28 = some out) : Run Pg 47 (sq2 (sq2 (bk1 (sq1 (sq2 (sq2 (lp1 (bk1 (sq2 (sq1 (sq2 (sq2 (sq2 c_46))))))))))))) ⟨[(8, .ptr 104 0), (9, .ptr 404 0), (11, .ptr 702 0), (34, .d t119 x22), (35, .d t2 x23), (36, .d t2 x24), (43, .d t4 x25)], [(104, bx 70 t69 x26), (404, bx 70 t69 x27), (702, bx 70 t69 x28)]⟩ (f46_c1_post x22 x23 x24 x25 x26 x27 x28 out) := by
 unfold f46_c1 at h
 refine Run.cd x25 (fun hb => ?_) (fun hb => ?_)
 ·replace h := bif_t h hb
  refine qE [] 900 ⟨[(8, .ptr 104 0), (9, .ptr 404 0), (34, .d t119 x22), (35, .d t2 x23), (36, .d t2 x24)], [(104, bx 70 t69 x26), (404, bx 70 t69 x28)]⟩ aN ?_
  obtain rfl := sI h
  exact ⟨rfl, by kernel_rfl⟩
 ·replace h := bif_f h hb
  refine qK ⟨[(8, .ptr 104 0), (9, .ptr 404 0), (34, .d t119 x22), (35, .d t2 x23), (36, .d t2 x24)], [(104, bx 70 t69 x26), (404, bx 70 t69 x27)]⟩ ?_
  refine Run.sk ?_
  obtain rfl := sI h
  exact ⟨rfl, by kernel_rfl⟩
def f46_l0_post (x7 : List RatL) (x8 : Int) (x10 : RatL) : RatL → Ex → St → Prop
 | o, x, s => x = .out 0 ∧ s = ⟨[(8, .ptr 104 0), (9, .ptr 404 0)], [(104, bx 70 t69 x10), (404, bx 70 t69 o)]⟩
def f46_l0_b (x7 : List RatL) (x8 : Int) (again : Int × RatL → Option RatL) : Int × RatL → Option RatL
 | (x9, x11) =>
 (bif (decide (x9 < x8)) then
 gd (0 ≤ x9) <|
 gd (x9 < ((List.length x7 : Nat) : Int)) <|
 (F45 (List.getD x7 (toN x9) ((false, ([] : List Int)), (false, ([] : List Int)))) x11).bind fun y21 =>
 ((f46_c1 (decide (y21 < (0 : Int))) x11 (List.getD x7 (toN x9) ((false, ([] : List Int)), (false, ([] : List Int))))).bind fun o29 =>
 again ((wrapI .i64 (x9 + (1 : Int))), o29))
 else
 some x11)
def f46_l0 (x7 : List RatL) (x8 : Int) : Nat → Int × RatL → Option RatL := loopF (f46_l0_b x7 x8)
theorem f46_l0_ok (x7 : List RatL) (x8 : Int) (x10 : RatL) (k : Nat) (x9 : Int) (x11 : RatL) {out : RatL} (h : f46_l0 x7 x8 k (x9, x11) = some out) : Run Pg 47 (bk1 (sq2 (sq1 (sq2 (sq2 (sq2 c_46)))))) ⟨[(8, .ptr 104 0), (9, .ptr 404 0), (34, .d t119 x7), (35, .d t2 x8), (36, .d t2 x9)], [(104, bx 70 t69 x10), (404, bx 70 t69 x11)]⟩ (f46_l0_post x7 x8 x10 out) := by
 refine Run.loopN (by kernel_rfl) (fun m s => ∃ x9 x11, s = ⟨[(8, .ptr 104 0), (9, .ptr 404 0), (34, .d t119 x7), (35, .d t2 x8), (36, .d t2 x9)], [(104, bx 70 t69 x10), (404, bx 70 t69 x11)]⟩ ∧ f46_l0 x7 x8 m (x9, x11) = some out) ?_ k ⟨x9, x11,  rfl, h⟩
 rintro m s ⟨x9, x11,  rfl, h⟩
 cases m with
 | zero => cases h
 | succ m =>
 replace h : f46_l0_b x7 x8 (f46_l0 x7 x8 m) (x9, x11) = some out := h
 unfold f46_l0_b at h
 refine qN [] 600 ⟨[(8, .ptr 104 0), (9, .ptr 404 0), (34, .d t119 x7), (35, .d t2 x8), (36, .d t2 x9), (37, .d t4 (decide (x9 < x8)))], [(104, bx 70 t69 x10), (404, bx 70 t69 x11)]⟩ aN ?_
 refine Run.sq ?_
 refine Run.cd (decide (x9 < x8)) (fun hb => ?_) (fun hb => ?_)
 ·replace h := bif_t h hb
  refine Run.sk ?_
  show Run Pg 47 _ _ _
  refine Run.sq ?_
  refine Run.bl 1 ?_
  obtain ⟨g_0, h⟩ := gd_elim h
  obtain ⟨g_1, h⟩ := gd_elim h
  refine qN [] 700 ⟨[(8, .ptr 104 0), (9, .ptr 404 0), (11, .ptr 702 0), (34, .d t119 x7), (35, .d t2 x8), (36, .d t2 x9)], [(104, bx 70 t69 x10), (404, bx 70 t69 x11), (702, bx 70 t69 (List.getD x7 (toN x9) ((false, ([] : List Int)), (false, ([] : List Int)))))]⟩ (aC g_0 (aC g_1 aN)) ?_
  obtain ⟨y21, h_y21, h⟩ := bnd_elim h
  refine qN [(2, .call (.d t2 y21))] 800 ⟨[(8, .ptr 104 0), (9, .ptr 404 0), (11, .ptr 702 0), (34, .d t119 x7), (35, .d t2 x8), (36, .d t2 x9), (43, .d t4 (decide (y21 < (0 : Int))))], [(104, bx 70 t69 x10), (404, bx 70 t69 x11), (702, bx 70 t69 (List.getD x7 (toN x9) ((false, ([] : List Int)), (false, ([] : List Int)))))]⟩ (aC (c45 h_y21) aN) ?_
  obtain ⟨o29, h_o29, h⟩ := bnd_elim h
  refine Run.mono (f46_c1_ok x7 x8 x9 (decide (y21 < (0 : Int))) x10 x11 (List.getD x7 (toN x9) ((false, ([] : List Int)), (false, ([] : List Int)))) h_o29) ?_
  rintro _ _ ⟨rfl, rfl⟩
  show Run Pg 47 _ _ _
  refine qE [] 1000 ⟨[(8, .ptr 104 0), (9, .ptr 404 0), (34, .d t119 x7), (35, .d t2 x8), (36, .d t2 (wrapI .i64 (x9 + (1 : Int))))], [(104, bx 70 t69 x10), (404, bx 70 t69 o29)]⟩ aN ?_
  exact ⟨m, Nat.lt_succ_self m, _, _, rfl, h⟩
 ·replace h := bif_f h hb
  refine qK ⟨[(8, .ptr 104 0), (9, .ptr 404 0)], [(104, bx 70 t69 x10), (404, bx 70 t69 x11)]⟩ ?_
  refine Run.ex 0 ?_
  obtain rfl := sI h
  exact ⟨rfl, by kernel_rfl⟩
def F46 (a0 : RatL × RatL) (a1 : RatL × RatL) (a2 : RatL × RatL) (a3 : RatL × RatL) : Option RatL :=
 (F72 a0 a1 a2 a3).bind fun y1 =>
 (bif y1 then
 (F42 (0 : Int)).bind fun y2 =>
 some y2
 else
 (F73 a0 a1 a2).bind fun y3 =>
 (F73 a0 a1 a3).bind fun y4 =>
 (F73 a2 a3 a0).bind fun y5 =>
 (F73 a2 a3 a1).bind fun y6 =>
 ((f46_l0 ([y4, y5, y6] : List RatL) (ofN (List.length ([y4, y5, y6] : List RatL))) (2 + List.length ([y4, y5, y6] : List RatL)) ((0 : Int), y3)).bind fun o30 =>
 some o30))
theorem c46 {a0 : RatL × RatL} {a1 : RatL × RatL} {a2 : RatL × RatL} {a3 : RatL × RatL} {r : RatL} (h : F46 a0 a1 a2 a3 = some r) : CallPure Pg 46 [(.d t86 a0), (.d t86 a1), (.d t86 a2), (.d t86 a3)] (.d t69 r) := by
 refine qC c_46 47 [.cell 8 70] [70] Go.Proofs.Tryz.func46 ?_
 show Run Pg 47 c_46 ⟨[(0, .d t86 a0), (1, .d t86 a1), (2, .d t86 a2), (3, .d t86 a3)], []⟩ (fin46 r)
 unfold F46 at h
 refine qN [] 100 ⟨[(4, .ptr 100 0), (5, .ptr 101 0), (6, .ptr 102 0), (7, .ptr 103 0), (8, .ptr 104 0)], [(100, bx 87 t86 a0), (101, bx 87 t86 a1), (102, bx 87 t86 a2), (103, bx 87 t86 a3), (104, bx 70 t69 ((false, ([] : List Int)), (false, ([] : List Int))))]⟩ aN ?_
 refine Run.sq ?_
 obtain ⟨y1, h_y1, h⟩ := bnd_elim h
 refine qN [(4, .call (.d t4 y1))] 200 ⟨[(4, .ptr 100 0), (5, .ptr 101 0), (6, .ptr 102 0), (7, .ptr 103 0), (8, .ptr 104 0), (16, .d t4 y1)], [(100, bx 87 t86 a0), (101, bx 87 t86 a1), (102, bx 87 t86 a2), (103, bx 87 t86 a3), (104, bx 70 t69 ((false, ([] : List Int)), (false, ([] : List Int))))]⟩ (aC (c72 h_y1) aN) ?_
 refine Run.cd y1 (fun hb => ?_) (fun hb => ?_)
 ·replace h := bif_t h hb
  obtain ⟨y2, h_y2, h⟩ := bnd_elim h
  refine qN [(0, .call (.d t69 y2))] 300 ⟨[(8, .ptr 104 0)], [(104, bx 70 t69 y2)]⟩ (aC (c42 h_y2) aN) ?_
  refine Run.rt ?_
  obtain rfl := sI h
  exact qR [(.d t69 y2)]
 ·replace h := bif_f h hb
  refine Run.sk ?_
  show Run Pg 47 _ _ _
  obtain ⟨y3, h_y3, h⟩ := bnd_elim h
  refine qN [(3, .call (.d t69 y3))] 400 ⟨[(4, .ptr 100 0), (5, .ptr 101 0), (6, .ptr 102 0), (7, .ptr 103 0), (8, .ptr 104 0), (9, .ptr 404 0)], [(100, bx 87 t86 a0), (101, bx 87 t86 a1), (102, bx 87 t86 a2), (103, bx 87 t86 a3), (104, bx 70 t69 ((false, ([] : List Int)), (false, ([] : List Int)))), (404, bx 70 t69 y3)]⟩ (aC (c73 h_y3) aN) ?_
  refine Run.sq ?_
  obtain ⟨y4, h_y4, h⟩ := bnd_elim h
  obtain ⟨y5, h_y5, h⟩ := bnd_elim h
  obtain ⟨y6, h_y6, h⟩ := bnd_elim h
  refine qN [(3, .call (.d t69 y4)), (7, .call (.d t69 y5)), (11, .call (.d t69 y6))] 500 ⟨[(8, .ptr 104 0), (9, .ptr 404 0), (34, .d t119 ([y4, y5, y6] : List RatL)), (35, .d t2 (ofN (List.length ([y4, y5, y6] : List RatL)))), (36, .d t2 (0 : Int))], [(104, bx 70 t69 ((false, ([] : List Int)), (false, ([] : List Int)))), (404, bx 70 t69 y3)]⟩ (aC (c73 h_y4) (aC (c73 h_y5) (aC (c73 h_y6) aN))) ?_
  refine Run.bl 0 ?_
  obtain ⟨o30, h_o30, h⟩ := bnd_elim h
  refine Run.mono (f46_l0_ok ([y4, y5, y6] : List RatL) (ofN (List.length ([y4, y5, y6] : List RatL))) ((false, ([] : List Int)), (false, ([] : List Int))) _ (0 : Int) y3 h_o30) ?_
  rintro _ _ ⟨rfl, rfl⟩
  show Run Pg 47 _ _ _
  refine qN [] 1100 ⟨[(8, .ptr 104 0)], [(104, bx 70 t69 o30)]⟩ aN ?_
  refine Run.rt ?_
  obtain rfl := sI h
  exact qR [(.d t69 o30)]

/-! ## f31 -/
noncomputable def c_31 : Code := body0 Go.Proofs.Tryz.f31
def fin31 (r : Bool) : Ex → St → Prop := endK X0 [.tmp 8] [4] (.d t4 r)
def f31_l0_post (x11 : List (RatL × RatL)) (x12 : Int) (x14 : RatL) (x15 : RatL × RatL) (x16 : RatL × RatL) : ((Unit) ⊕ (Bool)) → Ex → St → Prop
 | .inl o, x, s => x = .out 0 ∧ s = ⟨[], []⟩
 | .inr o, x, s => x = .ret ∧ fin31  o x s
def f31_l0_b (x11 : List (RatL × RatL)) (x12 : Int) (x14 : RatL) (x15 : RatL × RatL) (x16 : RatL × RatL) (again : Int → Option ((Unit) ⊕ (Bool))) : Int → Option ((Unit) ⊕ (Bool))
 | x13 =>
 (bif (decide (x13 < x12)) then
 gd (0 ≤ x13) <|
 gd (x13 < ((List.length x11 : Nat) : Int)) <|
 gd (0 ≤ (Int.tmod (wrapI .i64 (x13 + (1 : Int))) (4 : Int))) <|
 gd ((Int.tmod (wrapI .i64 (x13 + (1 : Int))) (4 : Int)) < ((List.length x11 : Nat) : Int)) <|
 (F46 x15 x16 (List.getD x11 (toN x13) (((false, ([] : List Int)), (false, ([] : List Int))), ((false, ([] : List Int)), (false, ([] : List Int))))) (List.getD x11 (toN (Int.tmod (wrapI .i64 (x13 + (1 : Int))) (4 : Int))) (((false, ([] : List Int)), (false, ([] : List Int))), ((false, ([] : List Int)), (false, ([] : List Int)))))).bind fun y19 =>
 (F45 y19 x14).bind fun y20 =>
 (bif (decide (y20 < (0 : Int))) then
 some (.inr true)
 else
 again (wrapI .i64 (x13 + (1 : Int))))
 else
 some (.inl ()))
def f31_l0 (x11 : List (RatL × RatL)) (x12 : Int) (x14 : RatL) (x15 : RatL × RatL) (x16 : RatL × RatL) : Nat → Int → Option ((Unit) ⊕ (Bool)) := loopF (f31_l0_b x11 x12 x14 x15 x16)
theorem f31_l0_ok (x11 : List (RatL × RatL)) (x12 : Int) (x14 : RatL) (x15 : RatL × RatL) (x16 : RatL × RatL) (k : Nat) (x13 : Int) {out : ((Unit) ⊕ (Bool))} (h : f31_l0 x11 x12 x14 x15 x16 k x13 = some out) : Run Pg 82 (bk1 (sq2 (sq1 (sq2 (sq2 (sq2 (sq2 (sq2 (sq2 (sq2 c_31)))))))))) ⟨[(9, .ptr 602 0), (10, .ptr 810 0), (11, .ptr 811 0), (12, .d t89 x11), (61, .d t89 x11), (62, .d t2 x12), (63, .d t2 x13)], [(602, bx 70 t69 x14), (810, bx 87 t86 x15), (811, bx 87 t86 x16)]⟩ (f31_l0_post x11 x12 x14 x15 x16 out) := by
 refine Run.loopN (by kernel_rfl) (fun m s => ∃ x13, s = ⟨[(9, .ptr 602 0), (10, .ptr 810 0), (11, .ptr 811 0), (12, .d t89 x11), (61, .d t89 x11), (62, .d t2 x12), (63, .d t2 x13)], [(602, bx 70 t69 x14), (810, bx 87 t86 x15), (811, bx 87 t86 x16)]⟩ ∧ f31_l0 x11 x12 x14 x15 x16 m x13 = some out) ?_ k ⟨x13,  rfl, h⟩
 rintro m s ⟨x13,  rfl, h⟩
 cases m with
 | zero => cases h
 | succ m =>
 replace h : f31_l0_b x11 x12 x14 x15 x16 (f31_l0 x11 x12 x14 x15 x16 m) x13 = some out := h
 unfold f31_l0_b at h
 refine qN [] 1100 ⟨[(9, .ptr 602 0), (10, .ptr 810 0), (11, .ptr 811 0), (12, .d t89 x11), (61, .d t89 x11), (62, .d t2 x12), (63, .d t2 x13), (64, .d t4 (decide (x13 < x12)))], [(602, bx 70 t69 x14), (810, bx 87 t86 x15), (811, bx 87 t86 x16)]⟩ aN ?_
 refine Run.sq ?_
 refine Run.cd (decide (x13 < x12)) (fun hb => ?_) (fun hb => ?_)
 ·replace h := bif_t h hb
  refine Run.sk ?_
  show Run Pg 82 _ _ _
  refine Run.sq ?_
  refine Run.bl 1 ?_
  obtain ⟨g_0, h⟩ := gd_elim h
  obtain ⟨g_1, h⟩ := gd_elim h
  refine qN [] 1200 ⟨[(9, .ptr 602 0), (10, .ptr 810 0), (11, .ptr 811 0), (12, .d t89 x11), (13, .d t2 x13), (14, .ptr 1203 0), (61, .d t89 x11), (62, .d t2 x12), (63, .d t2 x13)], [(602, bx 70 t69 x14), (810, bx 87 t86 x15), (811, bx 87 t86 x16), (1203, bx 87 t86 (List.getD x11 (toN x13) (((false, ([] : List Int)), (false, ([] : List Int))), ((false, ([] : List Int)), (false, ([] : List Int))))))]⟩ (aC g_0 (aC g_1 aN)) ?_
  obtain ⟨g_1, h⟩ := gd_elim h
  obtain ⟨g_2, h⟩ := gd_elim h
  obtain ⟨y19, h_y19, h⟩ := bnd_elim h
  obtain ⟨y20, h_y20, h⟩ := bnd_elim h
  refine qN [(9, .call (.d t69 y19)), (11, .call (.d t2 y20))] 1300 ⟨[(9, .ptr 602 0), (10, .ptr 810 0), (11, .ptr 811 0), (12, .d t89 x11), (61, .d t89 x11), (62, .d t2 x12), (63, .d t2 x13), (80, .d t4 (decide (y20 < (0 : Int))))], [(602, bx 70 t69 x14), (810, bx 87 t86 x15), (811, bx 87 t86 x16)]⟩ (aC (show ((4 : Int) ≠ 0) from (by decide)) (aC g_1 (aC g_2 (aC (c46 h_y19) (aC (c45 h_y20) aN))))) ?_
  refine Run.cd (decide (y20 < (0 : Int))) (fun hb => ?_) (fun hb => ?_)
  ·replace h := bif_t h hb
   refine qN [] 1400 ⟨[(8, .d t4 true)], []⟩ aN ?_
   refine Run.rt ?_
   obtain rfl := sI h
   exact ⟨rfl, [(.d t4 true)], by kernel_rfl, by kernel_rfl⟩
  ·replace h := bif_f h hb
   refine Run.sk ?_
   show Run Pg 82 _ _ _
   refine qE [] 1500 ⟨[(9, .ptr 602 0), (10, .ptr 810 0), (11, .ptr 811 0), (12, .d t89 x11), (61, .d t89 x11), (62, .d t2 x12), (63, .d t2 (wrapI .i64 (x13 + (1 : Int))))], [(602, bx 70 t69 x14), (810, bx 87 t86 x15), (811, bx 87 t86 x16)]⟩ aN ?_
   exact ⟨m, Nat.lt_succ_self m, _, rfl, h⟩
 ·replace h := bif_f h hb
  refine qK ⟨[], []⟩ ?_
  refine Run.ex 0 ?_
  obtain rfl := sI h
  exact ⟨rfl, by kernel_rfl⟩
def F31 (a0 : Int × Int × Int × Int × Int) (a1 : Int × Int) (a2 : Int × Int) (a3 : Int) : Option (Bool) :=
 (bif (decide (a3 ≤ (0 : Int))) then
 some false
 else
 (F41 a0 a1).bind fun y1 =>
 (bif y1 then
 some true
 else
 (F41 a0 a2).bind fun y2 =>
 (bif y2 then
 some true
 else
 (F42 a3).bind fun y3 =>
 (F43 y3 y3).bind fun y4 =>
 (F44 a1.1 a1.2).bind fun y5 =>
 (F44 a2.1 a2.2).bind fun y6 =>
 (F44 a0.1 a0.2.1).bind fun y7 =>
 (F44 a0.2.2.1 a0.2.1).bind fun y8 =>
 (F44 a0.2.2.1 a0.2.2.2.1).bind fun y9 =>
 (F44 a0.1 a0.2.2.2.1).bind fun y10 =>
 ((f31_l0 ([y7, y8, y9, y10] : List (RatL × RatL)) (ofN (List.length ([y7, y8, y9, y10] : List (RatL × RatL)))) y4 y5 y6 (2 + List.length ([y7, y8, y9, y10] : List (RatL × RatL))) (0 : Int)).bind fun o21 => match o21 with
 | .inl o22 =>
 some false
 | .inr o23 =>
 some o23))))
theorem c31 {a0 : Int × Int × Int × Int × Int} {a1 : Int × Int} {a2 : Int × Int} {a3 : Int} {r : Bool} (h : F31 a0 a1 a2 a3 = some r) : CallPure Pg 31 [(.d t56 a0), (.d t31 a1), (.d t31 a2), (.d t2 a3)] (.d t4 r) := by
 refine qC c_31 82 [.tmp 8] [4] Go.Proofs.Tryz.func31 ?_
 show Run Pg 82 c_31 ⟨[(0, .d t56 a0), (1, .d t31 a1), (2, .d t31 a2), (3, .d t2 a3)], []⟩ (fin31 r)
 unfold F31 at h
 refine qN [] 100 ⟨[(3, .d t2 a3), (4, .ptr 100 0), (5, .ptr 101 0), (6, .ptr 102 0)], [(100, bx 57 t56 a0), (101, bx 32 t31 a1), (102, bx 32 t31 a2)]⟩ aN ?_
 refine Run.sq ?_
 refine qN [] 200 ⟨[(3, .d t2 a3), (4, .ptr 100 0), (5, .ptr 101 0), (6, .ptr 102 0), (16, .d t4 (decide (a3 ≤ (0 : Int))))], [(100, bx 57 t56 a0), (101, bx 32 t31 a1), (102, bx 32 t31 a2)]⟩ aN ?_
 refine Run.cd (decide (a3 ≤ (0 : Int))) (fun hb => ?_) (fun hb => ?_)
 ·replace h := bif_t h hb
  refine qN [] 300 ⟨[(8, .d t4 false)], []⟩ aN ?_
  refine Run.rt ?_
  obtain rfl := sI h
  exact qR [(.d t4 false)]
 ·replace h := bif_f h hb
  refine Run.sk ?_
  show Run Pg 82 _ _ _
  refine Run.sq ?_
  obtain ⟨y1, h_y1, h⟩ := bnd_elim h
  rcases bif_elim h with ⟨hb1, h⟩ | ⟨hb1, h⟩
  ·refine qN [(2, .call (.d t4 y1)), (3, .b true)] 400 ⟨[(3, .d t2 a3), (4, .ptr 100 0), (5, .ptr 101 0), (6, .ptr 102 0), (24, .d t4 true)], [(100, bx 57 t56 a0), (101, bx 32 t31 a1), (102, bx 32 t31 a2)]⟩ (aC (c41 h_y1) (aC hb1 aN)) ?_
   refine Run.cd true (fun hb => ?_) (fun hb => (by cases hb))
   refine qN [] 500 ⟨[(8, .d t4 true)], []⟩ aN ?_
   refine Run.rt ?_
   obtain rfl := sI h
   exact qR [(.d t4 true)]
  ·obtain ⟨y2, h_y2, h⟩ := bnd_elim h
   refine qN [(2, .call (.d t4 y1)), (3, .b false), (6, .call (.d t4 y2))] 400 ⟨[(3, .d t2 a3), (4, .ptr 100 0), (5, .ptr 101 0), (6, .ptr 102 0), (24, .d t4 y2)], [(100, bx 57 t56 a0), (101, bx 32 t31 a1), (102, bx 32 t31 a2)]⟩ (aC (c41 h_y1) (aC hb1 (aC (c41 h_y2) aN))) ?_
   refine Run.cd y2 (fun hb => ?_) (fun hb => ?_)
   ·replace h := bif_t h hb
    refine qN [] 500 ⟨[(8, .d t4 true)], []⟩ aN ?_
    refine Run.rt ?_
    obtain rfl := sI h
    exact qR [(.d t4 true)]
   ·replace h := bif_f h hb
    refine Run.sk ?_
    show Run Pg 82 _ _ _
    obtain ⟨y3, h_y3, h⟩ := bnd_elim h
    refine qN [(1, .call (.d t69 y3))] 600 ⟨[(4, .ptr 100 0), (5, .ptr 101 0), (6, .ptr 102 0), (9, .ptr 602 0)], [(100, bx 57 t56 a0), (101, bx 32 t31 a1), (102, bx 32 t31 a2), (602, bx 70 t69 y3)]⟩ (aC (c42 h_y3) aN) ?_
    obtain ⟨y4, h_y4, h⟩ := bnd_elim h
    refine qN [(2, .call (.d t69 y4))] 700 ⟨[(4, .ptr 100 0), (5, .ptr 101 0), (6, .ptr 102 0), (9, .ptr 602 0)], [(100, bx 57 t56 a0), (101, bx 32 t31 a1), (102, bx 32 t31 a2), (602, bx 70 t69 y4)]⟩ (aC (c43 h_y4) aN) ?_
    obtain ⟨y5, h_y5, h⟩ := bnd_elim h
    obtain ⟨y6, h_y6, h⟩ := bnd_elim h
    refine qN [(4, .call (.d t86 y5)), (9, .call (.d t86 y6))] 800 ⟨[(4, .ptr 100 0), (9, .ptr 602 0), (10, .ptr 810 0), (11, .ptr 811 0)], [(100, bx 57 t56 a0), (602, bx 70 t69 y4), (810, bx 87 t86 y5), (811, bx 87 t86 y6)]⟩ (aC (c44 h_y5) (aC (c44 h_y6) aN)) ?_
    obtain ⟨y7, h_y7, h⟩ := bnd_elim h
    obtain ⟨y8, h_y8, h⟩ := bnd_elim h
    obtain ⟨y9, h_y9, h⟩ := bnd_elim h
    obtain ⟨y10, h_y10, h⟩ := bnd_elim h
    refine qN [(4, .call (.d t86 y7)), (9, .call (.d t86 y8)), (14, .call (.d t86 y9)), (19, .call (.d t86 y10))] 900 ⟨[(9, .ptr 602 0), (10, .ptr 810 0), (11, .ptr 811 0), (12, .d t89 ([y7, y8, y9, y10] : List (RatL × RatL)))], [(602, bx 70 t69 y4), (810, bx 87 t86 y5), (811, bx 87 t86 y6)]⟩ (aC (c44 h_y7) (aC (c44 h_y8) (aC (c44 h_y9) (aC (c44 h_y10) aN)))) ?_
    refine Run.sq ?_
    refine qN [] 1000 ⟨[(9, .ptr 602 0), (10, .ptr 810 0), (11, .ptr 811 0), (12, .d t89 ([y7, y8, y9, y10] : List (RatL × RatL))), (61, .d t89 ([y7, y8, y9, y10] : List (RatL × RatL))), (62, .d t2 (ofN (List.length ([y7, y8, y9, y10] : List (RatL × RatL))))), (63, .d t2 (0 : Int))], [(602, bx 70 t69 y4), (810, bx 87 t86 y5), (811, bx 87 t86 y6)]⟩ aN ?_
    refine Run.bl 0 ?_
    obtain ⟨o21, h_o21, h⟩ := bnd_elim h
    refine Run.mono (f31_l0_ok ([y7, y8, y9, y10] : List (RatL × RatL)) (ofN (List.length ([y7, y8, y9, y10] : List (RatL × RatL)))) y4 y5 y6 _ (0 : Int) h_o21) ?_
    rcases o21 with o22 | o23
    ·rintro _ _ ⟨rfl, rfl⟩
     show Run Pg 82 _ _ _
     refine qN [] 1600 ⟨[(8, .d t4 false)], []⟩ aN ?_
     refine Run.rt ?_
     obtain rfl := sI h
     exact qR [(.d t4 false)]
    ·rintro _ s ⟨rfl, hr⟩
     obtain rfl := sI h
     exact hr

/-! ## f13 -/
noncomputable def c_13 : Code := body0 Go.Proofs.Tryz.f13
def fin13 (r : Int × Bool) : Ex → St → Prop := endK X0 [.tmp 8, .tmp 9] [2, 4] (.tup (.vcons (.d t2 r.1) (.vcons (.d t4 r.2) .vnil)))
def f13_c1_post (x22 : Int) (x23 : Int) (x24 : Bool) (x25 : List (Int × Int × Int × Int × Int)) (x26 : Int) (x27 : Int) (x28 : Bool) (x29 : Int × Int) (x30 : Int × Int) (x31 : Int × Int × Int × Int × Int) : (Int × Bool) → Ex → St → Prop
 | o, x, s => x = .nrm ∧ s = ⟨[(3, .d t2 x22), (5, .ptr 101 0), (6, .ptr 102 0), (10, .d t2 o.1), (11, .d t4 o.2), (15, .d t22 x25), (16, .d t2 x26), (17, .d t2 x27)], [(101, bx 32 t31 x29), (102, bx 32 t31 x30)]⟩
def f13_c1 (x23 : Int) (x24 : Bool) (x28 : Bool) (x31 : Int × Int × Int × Int × Int) : Option (Int × Bool) :=
 (bif x28 then
 some (x31.2.2.2.2, true)
 else
 some (x23, x24))
theorem f13_c1_ok (x22 : Int) (x23 : Int) (x24 : Bool) (x25 : List (Int × Int × Int × Int × Int)) (x26 : Int) (x27 : Int) (x28 : Bool) (x29 : Int × Int) (x30 : Int × Int) (x31 : Int × Int × Int × Int × Int) {out : (Int × Bool)} (h : f13_c1 x23 x24 x28 x31 = some out) : Run Pg 41 (sq2 (sq2 (bk1 (sq1 (sq2 (sq2 (lp1 (bk1 (sq2 (sq1 (sq2 (sq2 c_13)))))))))))) ⟨[(3, .d t2 x22), (5, .ptr 101 0), (6, .ptr 102 0), (10, .d t2 x23), (11, .d t4 x24), (13, .ptr 502 0), (15, .d t22 x25), (16, .d t2 x26), (17, .d t2 x27), (35, .d t4 x28)], [(101, bx 32 t31 x29), (102, bx 32 t31 x30), (502, bx 57 t56 x31)]⟩ (f13_c1_post x22 x23 x24 x25 x26 x27 x28 x29 x30 x31 out) := by
 unfold f13_c1 at h
 refine Run.cd x28 (fun hb => ?_) (fun hb => ?_)
 ·replace h := bif_t h hb
  refine qE [] 700 ⟨[(3, .d t2 x22), (5, .ptr 101 0), (6, .ptr 102 0), (10, .d t2 x31.2.2.2.2), (11, .d t4 true), (15, .d t22 x25), (16, .d t2 x26), (17, .d t2 x27)], [(101, bx 32 t31 x29), (102, bx 32 t31 x30)]⟩ aN ?_
  obtain rfl := sI h
  exact ⟨rfl, by kernel_rfl⟩
 ·replace h := bif_f h hb
  refine qK ⟨[(3, .d t2 x22), (5, .ptr 101 0), (6, .ptr 102 0), (10, .d t2 x23), (11, .d t4 x24), (15, .d t22 x25), (16, .d t2 x26), (17, .d t2 x27)], [(101, bx 32 t31 x29), (102, bx 32 t31 x30)]⟩ ?_
  refine Run.sk ?_
  obtain rfl := sI h
  exact ⟨rfl, by kernel_rfl⟩
def f13_l0_post (x1 : Int) (x4 : List (Int × Int × Int × Int × Int)) (x5 : Int) (x7 : Int × Int) (x8 : Int × Int) : (Int × Bool) → Ex → St → Prop
 | o, x, s => x = .out 0 ∧ s = ⟨[(10, .d t2 o.1), (11, .d t4 o.2)], []⟩
def f13_l0_b (x1 : Int) (x4 : List (Int × Int × Int × Int × Int)) (x5 : Int) (x7 : Int × Int) (x8 : Int × Int) (again : Int × Bool × Int → Option (Int × Bool)) : Int × Bool × Int → Option (Int × Bool)
 | (x2, x3, x6) =>
 (bif (decide (x6 < x5)) then
 gd (0 ≤ x6) <|
 gd (x6 < ((List.length x4 : Nat) : Int)) <|
 (F31 (List.getD x4 (toN x6) ((0 : Int), (0 : Int), (0 : Int), (0 : Int), (0 : Int))) x7 x8 x1).bind fun y21 =>
 (bif y21 then
 (bif (!x3) then
 again ((List.getD x4 (toN x6) ((0 : Int), (0 : Int), (0 : Int), (0 : Int), (0 : Int))).2.2.2.2, true, (wrapI .i64 (x6 + (1 : Int))))
 else
 ((f13_c1 x2 x3 (decide (x2 < (List.getD x4 (toN x6) ((0 : Int), (0 : Int), (0 : Int), (0 : Int), (0 : Int))).2.2.2.2)) (List.getD x4 (toN x6) ((0 : Int), (0 : Int), (0 : Int), (0 : Int), (0 : Int)))).bind fun o32 =>
 again (o32.1, o32.2, (wrapI .i64 (x6 + (1 : Int))))))
 else
 again (x2, x3, (wrapI .i64 (x6 + (1 : Int)))))
 else
 some (x2, x3))
def f13_l0 (x1 : Int) (x4 : List (Int × Int × Int × Int × Int)) (x5 : Int) (x7 : Int × Int) (x8 : Int × Int) : Nat → Int × Bool × Int → Option (Int × Bool) := loopF (f13_l0_b x1 x4 x5 x7 x8)
theorem f13_l0_ok (x1 : Int) (x4 : List (Int × Int × Int × Int × Int)) (x5 : Int) (x7 : Int × Int) (x8 : Int × Int) (k : Nat) (x2 : Int) (x3 : Bool) (x6 : Int) {out : (Int × Bool)} (h : f13_l0 x1 x4 x5 x7 x8 k (x2, x3, x6) = some out) : Run Pg 41 (bk1 (sq2 (sq1 (sq2 (sq2 c_13))))) ⟨[(3, .d t2 x1), (5, .ptr 101 0), (6, .ptr 102 0), (10, .d t2 x2), (11, .d t4 x3), (15, .d t22 x4), (16, .d t2 x5), (17, .d t2 x6)], [(101, bx 32 t31 x7), (102, bx 32 t31 x8)]⟩ (f13_l0_post x1 x4 x5 x7 x8 out) := by
 refine Run.loopN (by kernel_rfl) (fun m s => ∃ x2 x3 x6, s = ⟨[(3, .d t2 x1), (5, .ptr 101 0), (6, .ptr 102 0), (10, .d t2 x2), (11, .d t4 x3), (15, .d t22 x4), (16, .d t2 x5), (17, .d t2 x6)], [(101, bx 32 t31 x7), (102, bx 32 t31 x8)]⟩ ∧ f13_l0 x1 x4 x5 x7 x8 m (x2, x3, x6) = some out) ?_ k ⟨x2, x3, x6,  rfl, h⟩
 rintro m s ⟨x2, x3, x6,  rfl, h⟩
 cases m with
 | zero => cases h
 | succ m =>
 replace h : f13_l0_b x1 x4 x5 x7 x8 (f13_l0 x1 x4 x5 x7 x8 m) (x2, x3, x6) = some out := h
 unfold f13_l0_b at h
 refine qN [] 400 ⟨[(3, .d t2 x1), (5, .ptr 101 0), (6, .ptr 102 0), (10, .d t2 x2), (11, .d t4 x3), (15, .d t22 x4), (16, .d t2 x5), (17, .d t2 x6), (18, .d t4 (decide (x6 < x5)))], [(101, bx 32 t31 x7), (102, bx 32 t31 x8)]⟩ aN ?_
 refine Run.sq ?_
 refine Run.cd (decide (x6 < x5)) (fun hb => ?_) (fun hb => ?_)
 ·replace h := bif_t h hb
  refine Run.sk ?_
  show Run Pg 41 _ _ _
  refine Run.sq ?_
  refine Run.bl 1 ?_
  obtain ⟨g_0, h⟩ := gd_elim h
  obtain ⟨g_1, h⟩ := gd_elim h
  refine qN [] 500 ⟨[(3, .d t2 x1), (5, .ptr 101 0), (6, .ptr 102 0), (10, .d t2 x2), (11, .d t4 x3), (13, .ptr 502 0), (15, .d t22 x4), (16, .d t2 x5), (17, .d t2 x6)], [(101, bx 32 t31 x7), (102, bx 32 t31 x8), (502, bx 57 t56 (List.getD x4 (toN x6) ((0 : Int), (0 : Int), (0 : Int), (0 : Int), (0 : Int))))]⟩ (aC g_0 (aC g_1 aN)) ?_
  obtain ⟨y21, h_y21, h⟩ := bnd_elim h
  rcases bif_elim h with ⟨hb1, h⟩ | ⟨hb1, h⟩
  ·rcases bif_elim h with ⟨hb2, h⟩ | ⟨hb2, h⟩
   ·refine qN [(4, .call (.d t4 y21)), (5, .b true), (8, .b true)] 600 ⟨[(3, .d t2 x1), (5, .ptr 101 0), (6, .ptr 102 0), (10, .d t2 x2), (11, .d t4 x3), (13, .ptr 502 0), (15, .d t22 x4), (16, .d t2 x5), (17, .d t2 x6), (35, .d t4 true)], [(101, bx 32 t31 x7), (102, bx 32 t31 x8), (502, bx 57 t56 (List.getD x4 (toN x6) ((0 : Int), (0 : Int), (0 : Int), (0 : Int), (0 : Int))))]⟩ (aC (c31 h_y21) (aC hb1 (aC hb2 aN))) ?_
    refine Run.cd true (fun hb => ?_) (fun hb => (by cases hb))
    refine qE [] 700 ⟨[(3, .d t2 x1), (5, .ptr 101 0), (6, .ptr 102 0), (10, .d t2 (List.getD x4 (toN x6) ((0 : Int), (0 : Int), (0 : Int), (0 : Int), (0 : Int))).2.2.2.2), (11, .d t4 true), (15, .d t22 x4), (16, .d t2 x5), (17, .d t2 x6)], [(101, bx 32 t31 x7), (102, bx 32 t31 x8)]⟩ aN ?_
    show Run Pg 41 _ _ _
    refine qE [] 800 ⟨[(3, .d t2 x1), (5, .ptr 101 0), (6, .ptr 102 0), (10, .d t2 (List.getD x4 (toN x6) ((0 : Int), (0 : Int), (0 : Int), (0 : Int), (0 : Int))).2.2.2.2), (11, .d t4 true), (15, .d t22 x4), (16, .d t2 x5), (17, .d t2 (wrapI .i64 (x6 + (1 : Int))))], [(101, bx 32 t31 x7), (102, bx 32 t31 x8)]⟩ aN ?_
    exact ⟨m, Nat.lt_succ_self m, _, _, _, rfl, h⟩
   ·refine qN [(4, .call (.d t4 y21)), (5, .b true), (8, .b false)] 600 ⟨[(3, .d t2 x1), (5, .ptr 101 0), (6, .ptr 102 0), (10, .d t2 x2), (11, .d t4 x3), (13, .ptr 502 0), (15, .d t22 x4), (16, .d t2 x5), (17, .d t2 x6), (35, .d t4 (decide (x2 < (List.getD x4 (toN x6) ((0 : Int), (0 : Int), (0 : Int), (0 : Int), (0 : Int))).2.2.2.2)))], [(101, bx 32 t31 x7), (102, bx 32 t31 x8), (502, bx 57 t56 (List.getD x4 (toN x6) ((0 : Int), (0 : Int), (0 : Int), (0 : Int), (0 : Int))))]⟩ (aC (c31 h_y21) (aC hb1 (aC hb2 aN))) ?_
    obtain ⟨o32, h_o32, h⟩ := bnd_elim h
    refine Run.mono (f13_c1_ok x1 x2 x3 x4 x5 x6 (decide (x2 < (List.getD x4 (toN x6) ((0 : Int), (0 : Int), (0 : Int), (0 : Int), (0 : Int))).2.2.2.2)) x7 x8 (List.getD x4 (toN x6) ((0 : Int), (0 : Int), (0 : Int), (0 : Int), (0 : Int))) h_o32) ?_
    rintro _ _ ⟨rfl, rfl⟩
    show Run Pg 41 _ _ _
    refine qE [] 800 ⟨[(3, .d t2 x1), (5, .ptr 101 0), (6, .ptr 102 0), (10, .d t2 o32.1), (11, .d t4 o32.2), (15, .d t22 x4), (16, .d t2 x5), (17, .d t2 (wrapI .i64 (x6 + (1 : Int))))], [(101, bx 32 t31 x7), (102, bx 32 t31 x8)]⟩ aN ?_
    exact ⟨m, Nat.lt_succ_self m, _, _, _, rfl, h⟩
  ·refine qN [(4, .call (.d t4 y21)), (5, .b false)] 600 ⟨[(3, .d t2 x1), (5, .ptr 101 0), (6, .ptr 102 0), (10, .d t2 x2), (11, .d t4 x3), (13, .ptr 502 0), (15, .d t22 x4), (16, .d t2 x5), (17, .d t2 x6), (35, .d t4 false)], [(101, bx 32 t31 x7), (102, bx 32 t31 x8), (502, bx 57 t56 (List.getD x4 (toN x6) ((0 : Int), (0 : Int), (0 : Int), (0 : Int), (0 : Int))))]⟩ (aC (c31 h_y21) (aC hb1 aN)) ?_
   refine Run.cd false (fun hb => (by cases hb)) (fun hb => ?_)
   refine Run.sk ?_
   show Run Pg 41 _ _ _
   refine qE [] 800 ⟨[(3, .d t2 x1), (5, .ptr 101 0), (6, .ptr 102 0), (10, .d t2 x2), (11, .d t4 x3), (15, .d t22 x4), (16, .d t2 x5), (17, .d t2 (wrapI .i64 (x6 + (1 : Int))))], [(101, bx 32 t31 x7), (102, bx 32 t31 x8)]⟩ aN ?_
   exact ⟨m, Nat.lt_succ_self m, _, _, _, rfl, h⟩
 ·replace h := bif_f h hb
  refine qK ⟨[(10, .d t2 x2), (11, .d t4 x3)], []⟩ ?_
  refine Run.ex 0 ?_
  obtain rfl := sI h
  exact ⟨rfl, by kernel_rfl⟩
def F13 (a0 : Int × Int × Int × Int × Int × Int × (List (Int × Int × Int × Int × Int)) × Int) (a1 : Int × Int) (a2 : Int × Int) (a3 : Int) : Option (Int × Bool) :=
 ((f13_l0 a3 a0.2.2.2.2.2.2.1 (ofN (List.length a0.2.2.2.2.2.2.1)) a1 a2 (2 + List.length a0.2.2.2.2.2.2.1) ((0 : Int), false, (0 : Int))).bind fun o33 =>
 some (o33.1, o33.2))
theorem c13 {a0 : Int × Int × Int × Int × Int × Int × (List (Int × Int × Int × Int × Int)) × Int} {a1 : Int × Int} {a2 : Int × Int} {a3 : Int} {r : Int × Bool} (h : F13 a0 a1 a2 a3 = some r) : CallPure Pg 13 [(.d t23 a0), (.d t31 a1), (.d t31 a2), (.d t2 a3)] (.tup (.vcons (.d t2 r.1) (.vcons (.d t4 r.2) .vnil))) := by
 refine qC c_13 41 [.tmp 8, .tmp 9] [2, 4] Go.Proofs.Tryz.func13 ?_
 show Run Pg 41 c_13 ⟨[(0, .d t23 a0), (1, .d t31 a1), (2, .d t31 a2), (3, .d t2 a3)], []⟩ (fin13 r)
 unfold F13 at h
 refine qN [] 100 ⟨[(3, .d t2 a3), (4, .ptr 100 0), (5, .ptr 101 0), (6, .ptr 102 0)], [(100, bx 24 t23 a0), (101, bx 32 t31 a1), (102, bx 32 t31 a2)]⟩ aN ?_
 refine qN [] 200 ⟨[(3, .d t2 a3), (4, .ptr 100 0), (5, .ptr 101 0), (6, .ptr 102 0), (10, .d t2 (0 : Int)), (11, .d t4 false)], [(100, bx 24 t23 a0), (101, bx 32 t31 a1), (102, bx 32 t31 a2)]⟩ aN ?_
 refine Run.sq ?_
 refine qN [] 300 ⟨[(3, .d t2 a3), (5, .ptr 101 0), (6, .ptr 102 0), (10, .d t2 (0 : Int)), (11, .d t4 false), (15, .d t22 a0.2.2.2.2.2.2.1), (16, .d t2 (ofN (List.length a0.2.2.2.2.2.2.1))), (17, .d t2 (0 : Int))], [(101, bx 32 t31 a1), (102, bx 32 t31 a2)]⟩ aN ?_
 refine Run.bl 0 ?_
 obtain ⟨o33, h_o33, h⟩ := bnd_elim h
 refine Run.mono (f13_l0_ok a3 a0.2.2.2.2.2.2.1 (ofN (List.length a0.2.2.2.2.2.2.1)) a1 a2 _ (0 : Int) false (0 : Int) h_o33) ?_
 rintro _ _ ⟨rfl, rfl⟩
 show Run Pg 41 _ _ _
 refine qN [] 900 ⟨[(8, .d t2 o33.1), (9, .d t4 o33.2)], []⟩ aN ?_
 refine Run.rt ?_
 obtain rfl := sI h
 exact qR [(.d t2 o33.1), (.d t4 o33.2)]

/-! ## f18 -/
noncomputable def c_18 : Code := body0 Go.Proofs.Tryz.f18
def fin18 (r : (Int × Int × Int × Int × Int × Int × (List (Int × Int × Int × Int × Int)) × Int)) : Ex → St → Prop := endK X0 [.cell 0 24] [24] (.d t23 r)
def F18  : Option ((Int × Int × Int × Int × Int × Int × (List (Int × Int × Int × Int × Int)) × Int)) :=
 some ((0 : Int), (0 : Int), (100000 : Int), (60000 : Int), (20000 : Int), (5000 : Int), ([((0 : Int), (0 : Int), (10000 : Int), (10000 : Int), (8500 : Int))] : List (Int × Int × Int × Int × Int)), (15000 : Int))
theorem c18  {r : (Int × Int × Int × Int × Int × Int × (List (Int × Int × Int × Int × Int)) × Int)} (h : F18  = some r) : CallPure Pg 18 [] (.d t23 r) := by
 refine qC c_18 4 [.cell 0 24] [24] Go.Proofs.Tryz.func18 ?_
 show Run Pg 4 c_18 ⟨[], []⟩ (fin18 r)
 unfold F18 at h
 refine qN [] 100 ⟨[(0, .ptr 100 0)], [(100, bx 24 t23 ((0 : Int), (0 : Int), (0 : Int), (0 : Int), (0 : Int), (0 : Int), ([] : List (Int × Int × Int × Int × Int)), (0 : Int)))]⟩ aN ?_
 refine qN [] 200 ⟨[(0, .ptr 100 0)], [(100, bx 24 t23 ((0 : Int), (0 : Int), (100000 : Int), (60000 : Int), (20000 : Int), (5000 : Int), ([((0 : Int), (0 : Int), (10000 : Int), (10000 : Int), (8500 : Int))] : List (Int × Int × Int × Int × Int)), (15000 : Int)))]⟩ aN ?_
 refine Run.rt ?_
 obtain rfl := sI h
 exact qR [(.d t23 ((0 : Int), (0 : Int), (100000 : Int), (60000 : Int), (20000 : Int), (5000 : Int), ([((0 : Int), (0 : Int), (10000 : Int), (10000 : Int), (8500 : Int))] : List (Int × Int × Int × Int × Int)), (15000 : Int)))]

/-! ## f20 -/
noncomputable def c_20 : Code := body0 Go.Proofs.Tryz.f20
def fin20 (r : Bool) : Ex → St → Prop := endK X0 [.tmp 4] [4] (.d t4 r)
def f20_l0_post (x2 : Int × Int × Int × Int × Int × Int × (List (Int × Int × Int × Int × Int)) × Int) (x3 : Int × Int × Int × Int × Int × Int × (List (Int × Int × Int × Int × Int)) × Int) : ((Unit) ⊕ (Bool)) → Ex → St → Prop
 | .inl o, x, s => x = .out 0 ∧ s = ⟨[], []⟩
 | .inr o, x, s => x = .ret ∧ fin20  o x s
def f20_l0_b (x2 : Int × Int × Int × Int × Int × Int × (List (Int × Int × Int × Int × Int)) × Int) (x3 : Int × Int × Int × Int × Int × Int × (List (Int × Int × Int × Int × Int)) × Int) (again : Int → Option ((Unit) ⊕ (Bool))) : Int → Option ((Unit) ⊕ (Bool))
 | x1 =>
 (bif (decide (x1 < (ofN (List.length x2.2.2.2.2.2.2.1)))) then
 gd (0 ≤ x1) <|
 gd (x1 < ((List.length x2.2.2.2.2.2.2.1 : Nat) : Int)) <|
 gd (0 ≤ x1) <|
 gd (x1 < ((List.length x3.2.2.2.2.2.2.1 : Nat) : Int)) <|
 (bif (!(eqD t56 (List.getD x2.2.2.2.2.2.2.1 (toN x1) ((0 : Int), (0 : Int), (0 : Int), (0 : Int), (0 : Int))) (List.getD x3.2.2.2.2.2.2.1 (toN x1) ((0 : Int), (0 : Int), (0 : Int), (0 : Int), (0 : Int))))) then
 some (.inr false)
 else
 again (wrapI .i64 (x1 + (1 : Int))))
 else
 some (.inl ()))
def f20_l0 (x2 : Int × Int × Int × Int × Int × Int × (List (Int × Int × Int × Int × Int)) × Int) (x3 : Int × Int × Int × Int × Int × Int × (List (Int × Int × Int × Int × Int)) × Int) : Nat → Int → Option ((Unit) ⊕ (Bool)) := loopF (f20_l0_b x2 x3)
theorem f20_l0_ok (x2 : Int × Int × Int × Int × Int × Int × (List (Int × Int × Int × Int × Int)) × Int) (x3 : Int × Int × Int × Int × Int × Int × (List (Int × Int × Int × Int × Int)) × Int) (k : Nat) (x1 : Int) {out : ((Unit) ⊕ (Bool))} (h : f20_l0 x2 x3 k x1 = some out) : Run Pg 80 (bk1 (sq2 (sq1 (sq2 (sq2 c_20))))) ⟨[(2, .ptr 100 0), (3, .ptr 101 0), (5, .d t2 x1)], [(100, bx 24 t23 x2), (101, bx 24 t23 x3)]⟩ (f20_l0_post x2 x3 out) := by
 refine Run.loopN (by kernel_rfl) (fun m s => ∃ x1, s = ⟨[(2, .ptr 100 0), (3, .ptr 101 0), (5, .d t2 x1)], [(100, bx 24 t23 x2), (101, bx 24 t23 x3)]⟩ ∧ f20_l0 x2 x3 m x1 = some out) ?_ k ⟨x1,  rfl, h⟩
 rintro m s ⟨x1,  rfl, h⟩
 cases m with
 | zero => cases h
 | succ m =>
 replace h : f20_l0_b x2 x3 (f20_l0 x2 x3 m) x1 = some out := h
 unfold f20_l0_b at h
 refine Run.sq ?_
 refine qN [] 500 ⟨[(2, .ptr 100 0), (3, .ptr 101 0), (5, .d t2 x1), (66, .d t4 (decide (x1 < (ofN (List.length x2.2.2.2.2.2.2.1)))))], [(100, bx 24 t23 x2), (101, bx 24 t23 x3)]⟩ aN ?_
 refine Run.cd (decide (x1 < (ofN (List.length x2.2.2.2.2.2.2.1)))) (fun hb => ?_) (fun hb => ?_)
 ·replace h := bif_t h hb
  refine Run.sk ?_
  show Run Pg 80 _ _ _
  refine Run.sq ?_
  refine Run.bl 1 ?_
  obtain ⟨g_0, h⟩ := gd_elim h
  obtain ⟨g_1, h⟩ := gd_elim h
  obtain ⟨g_2, h⟩ := gd_elim h
  obtain ⟨g_3, h⟩ := gd_elim h
  refine qN [] 700 ⟨[(2, .ptr 100 0), (3, .ptr 101 0), (5, .d t2 x1), (79, .d t4 (!(eqD t56 (List.getD x2.2.2.2.2.2.2.1 (toN x1) ((0 : Int), (0 : Int), (0 : Int), (0 : Int), (0 : Int))) (List.getD x3.2.2.2.2.2.2.1 (toN x1) ((0 : Int), (0 : Int), (0 : Int), (0 : Int), (0 : Int))))))], [(100, bx 24 t23 x2), (101, bx 24 t23 x3)]⟩ (aC g_0 (aC g_1 (aC g_2 (aC g_3 aN)))) ?_
  refine Run.cd (!(eqD t56 (List.getD x2.2.2.2.2.2.2.1 (toN x1) ((0 : Int), (0 : Int), (0 : Int), (0 : Int), (0 : Int))) (List.getD x3.2.2.2.2.2.2.1 (toN x1) ((0 : Int), (0 : Int), (0 : Int), (0 : Int), (0 : Int))))) (fun hb => ?_) (fun hb => ?_)
  ·replace h := bif_t h hb
   refine qN [] 800 ⟨[(4, .d t4 false)], []⟩ aN ?_
   refine Run.rt ?_
   obtain rfl := sI h
   exact ⟨rfl, [(.d t4 false)], by kernel_rfl, by kernel_rfl⟩
  ·replace h := bif_f h hb
   refine Run.sk ?_
   show Run Pg 80 _ _ _
   refine qE [] 600 ⟨[(2, .ptr 100 0), (3, .ptr 101 0), (5, .d t2 (wrapI .i64 (x1 + (1 : Int))))], [(100, bx 24 t23 x2), (101, bx 24 t23 x3)]⟩ aN ?_
   exact ⟨m, Nat.lt_succ_self m, _, rfl, h⟩
 ·replace h := bif_f h hb
  refine qK ⟨[], []⟩ ?_
  refine Run.ex 0 ?_
  obtain rfl := sI h
  exact ⟨rfl, by kernel_rfl⟩
def F20 (a0 : Int × Int × Int × Int × Int × Int × (List (Int × Int × Int × Int × Int)) × Int) (a1 : Int × Int × Int × Int × Int × Int × (List (Int × Int × Int × Int × Int)) × Int) : Option (Bool) :=
 (bif (a0.1 != a1.1) then
 some false
 else
 (bif (a0.2.1 != a1.2.1) then
 some false
 else
 (bif (a0.2.2.1 != a1.2.2.1) then
 some false
 else
 (bif (a0.2.2.2.1 != a1.2.2.2.1) then
 some false
 else
 (bif (a0.2.2.2.2.1 != a1.2.2.2.2.1) then
 some false
 else
 (bif (a0.2.2.2.2.2.1 != a1.2.2.2.2.2.1) then
 some false
 else
 (bif (a0.2.2.2.2.2.2.2 != a1.2.2.2.2.2.2.2) then
 some false
 else
 (bif ((ofN (List.length a0.2.2.2.2.2.2.1)) != (ofN (List.length a1.2.2.2.2.2.2.1))) then
 some false
 else
 ((f20_l0 a0 a1 (2 + List.length a0.2.2.2.2.2.2.1 + List.length a1.2.2.2.2.2.2.1) (0 : Int)).bind fun o4 => match o4 with
 | .inl o5 =>
 some true
 | .inr o6 =>
 some o6)))))))))
theorem c20 {a0 : Int × Int × Int × Int × Int × Int × (List (Int × Int × Int × Int × Int)) × Int} {a1 : Int × Int × Int × Int × Int × Int × (List (Int × Int × Int × Int × Int)) × Int} {r : Bool} (h : F20 a0 a1 = some r) : CallPure Pg 20 [(.d t23 a0), (.d t23 a1)] (.d t4 r) := by
 refine qC c_20 80 [.tmp 4] [4] Go.Proofs.Tryz.func20 ?_
 show Run Pg 80 c_20 ⟨[(0, .d t23 a0), (1, .d t23 a1)], []⟩ (fin20 r)
 unfold F20 at h
 refine qN [] 100 ⟨[(2, .ptr 100 0), (3, .ptr 101 0)], [(100, bx 24 t23 a0), (101, bx 24 t23 a1)]⟩ aN ?_
 refine Run.sq ?_
 rcases bif_elim h with ⟨hb0, h⟩ | ⟨hb0, h⟩
 ·refine qN [(5, .b true)] 200 ⟨[(2, .ptr 100 0), (3, .ptr 101 0), (61, .d t4 true)], [(100, bx 24 t23 a0), (101, bx 24 t23 a1)]⟩ (aC hb0 aN) ?_
  refine Run.cd true (fun hb => ?_) (fun hb => (by cases hb))
  refine qN [] 300 ⟨[(4, .d t4 false)], []⟩ aN ?_
  refine Run.rt ?_
  obtain rfl := sI h
  exact qR [(.d t4 false)]
 ·rcases bif_elim h with ⟨hb1, h⟩ | ⟨hb1, h⟩
  ·refine qN [(5, .b false), (12, .b true)] 200 ⟨[(2, .ptr 100 0), (3, .ptr 101 0), (61, .d t4 true)], [(100, bx 24 t23 a0), (101, bx 24 t23 a1)]⟩ (aC hb0 (aC hb1 aN)) ?_
   refine Run.cd true (fun hb => ?_) (fun hb => (by cases hb))
   refine qN [] 300 ⟨[(4, .d t4 false)], []⟩ aN ?_
   refine Run.rt ?_
   obtain rfl := sI h
   exact qR [(.d t4 false)]
  ·rcases bif_elim h with ⟨hb2, h⟩ | ⟨hb2, h⟩
   ·refine qN [(5, .b false), (12, .b false), (19, .b true)] 200 ⟨[(2, .ptr 100 0), (3, .ptr 101 0), (61, .d t4 true)], [(100, bx 24 t23 a0), (101, bx 24 t23 a1)]⟩ (aC hb0 (aC hb1 (aC hb2 aN))) ?_
    refine Run.cd true (fun hb => ?_) (fun hb => (by cases hb))
    refine qN [] 300 ⟨[(4, .d t4 false)], []⟩ aN ?_
    refine Run.rt ?_
    obtain rfl := sI h
    exact qR [(.d t4 false)]
   ·rcases bif_elim h with ⟨hb3, h⟩ | ⟨hb3, h⟩
    ·refine qN [(5, .b false), (12, .b false), (19, .b false), (26, .b true)] 200 ⟨[(2, .ptr 100 0), (3, .ptr 101 0), (61, .d t4 true)], [(100, bx 24 t23 a0), (101, bx 24 t23 a1)]⟩ (aC hb0 (aC hb1 (aC hb2 (aC hb3 aN)))) ?_
     refine Run.cd true (fun hb => ?_) (fun hb => (by cases hb))
     refine qN [] 300 ⟨[(4, .d t4 false)], []⟩ aN ?_
     refine Run.rt ?_
     obtain rfl := sI h
     exact qR [(.d t4 false)]
    ·rcases bif_elim h with ⟨hb4, h⟩ | ⟨hb4, h⟩
     ·refine qN [(5, .b false), (12, .b false), (19, .b false), (26, .b false), (33, .b true)] 200 ⟨[(2, .ptr 100 0), (3, .ptr 101 0), (61, .d t4 true)], [(100, bx 24 t23 a0), (101, bx 24 t23 a1)]⟩ (aC hb0 (aC hb1 (aC hb2 (aC hb3 (aC hb4 aN))))) ?_
      refine Run.cd true (fun hb => ?_) (fun hb => (by cases hb))
      refine qN [] 300 ⟨[(4, .d t4 false)], []⟩ aN ?_
      refine Run.rt ?_
      obtain rfl := sI h
      exact qR [(.d t4 false)]
     ·rcases bif_elim h with ⟨hb5, h⟩ | ⟨hb5, h⟩
      ·refine qN [(5, .b false), (12, .b false), (19, .b false), (26, .b false), (33, .b false), (40, .b true)] 200 ⟨[(2, .ptr 100 0), (3, .ptr 101 0), (61, .d t4 true)], [(100, bx 24 t23 a0), (101, bx 24 t23 a1)]⟩ (aC hb0 (aC hb1 (aC hb2 (aC hb3 (aC hb4 (aC hb5 aN)))))) ?_
       refine Run.cd true (fun hb => ?_) (fun hb => (by cases hb))
       refine qN [] 300 ⟨[(4, .d t4 false)], []⟩ aN ?_
       refine Run.rt ?_
       obtain rfl := sI h
       exact qR [(.d t4 false)]
      ·rcases bif_elim h with ⟨hb6, h⟩ | ⟨hb6, h⟩
       ·refine qN [(5, .b false), (12, .b false), (19, .b false), (26, .b false), (33, .b false), (40, .b false), (47, .b true)] 200 ⟨[(2, .ptr 100 0), (3, .ptr 101 0), (61, .d t4 true)], [(100, bx 24 t23 a0), (101, bx 24 t23 a1)]⟩ (aC hb0 (aC hb1 (aC hb2 (aC hb3 (aC hb4 (aC hb5 (aC hb6 aN))))))) ?_
        refine Run.cd true (fun hb => ?_) (fun hb => (by cases hb))
        refine qN [] 300 ⟨[(4, .d t4 false)], []⟩ aN ?_
        refine Run.rt ?_
        obtain rfl := sI h
        exact qR [(.d t4 false)]
       ·refine qN [(5, .b false), (12, .b false), (19, .b false), (26, .b false), (33, .b false), (40, .b false), (47, .b false)] 200 ⟨[(2, .ptr 100 0), (3, .ptr 101 0), (61, .d t4 ((ofN (List.length a0.2.2.2.2.2.2.1)) != (ofN (List.length a1.2.2.2.2.2.2.1))))], [(100, bx 24 t23 a0), (101, bx 24 t23 a1)]⟩ (aC hb0 (aC hb1 (aC hb2 (aC hb3 (aC hb4 (aC hb5 (aC hb6 aN))))))) ?_
        refine Run.cd ((ofN (List.length a0.2.2.2.2.2.2.1)) != (ofN (List.length a1.2.2.2.2.2.2.1))) (fun hb => ?_) (fun hb => ?_)
        ·replace h := bif_t h hb
         refine qN [] 300 ⟨[(4, .d t4 false)], []⟩ aN ?_
         refine Run.rt ?_
         obtain rfl := sI h
         exact qR [(.d t4 false)]
        ·replace h := bif_f h hb
         refine Run.sk ?_
         show Run Pg 80 _ _ _
         refine Run.sq ?_
         refine qN [] 400 ⟨[(2, .ptr 100 0), (3, .ptr 101 0), (5, .d t2 (0 : Int))], [(100, bx 24 t23 a0), (101, bx 24 t23 a1)]⟩ aN ?_
         refine Run.bl 0 ?_
         obtain ⟨o4, h_o4, h⟩ := bnd_elim h
         refine Run.mono (f20_l0_ok a0 a1 _ (0 : Int) h_o4) ?_
         rcases o4 with o5 | o6
         ·rintro _ _ ⟨rfl, rfl⟩
          show Run Pg 80 _ _ _
          refine qN [] 900 ⟨[(4, .d t4 true)], []⟩ aN ?_
          refine Run.rt ?_
          obtain rfl := sI h
          exact qR [(.d t4 true)]
         ·rintro _ s ⟨rfl, hr⟩
          obtain rfl := sI h
          exact hr

/-! ## f82 -/
noncomputable def c_82 : Code := body0 Go.Proofs.Tryz.f82
def fin82 (r : Bool) : Ex → St → Prop := endK X0 [.tmp 2] [4] (.d t4 r)
def F82 (a0 : Int) : Option (Bool) :=
 (bif (decide ((97 : Int) ≤ a0)) then
 (bif (decide (a0 ≤ (122 : Int))) then
 some true
 else
 (bif (decide ((65 : Int) ≤ a0)) then
 some (decide (a0 ≤ (90 : Int)))
 else
 some false))
 else
 (bif (decide ((65 : Int) ≤ a0)) then
 some (decide (a0 ≤ (90 : Int)))
 else
 some false))
theorem c82 {a0 : Int} {r : Bool} (h : F82 a0 = some r) : CallPure Pg 82 [(.d t5 a0)] (.d t4 r) := by
 refine qC c_82 17 [.tmp 2] [4] Go.Proofs.Tryz.func82 ?_
 show Run Pg 17 c_82 ⟨[(0, .d t5 a0)], []⟩ (fin82 r)
 unfold F82 at h
 refine qN [] 100 ⟨[(0, .d t5 a0)], []⟩ aN ?_
 rcases bif_elim h with ⟨hb0, h⟩ | ⟨hb0, h⟩
 ·rcases bif_elim h with ⟨hb1, h⟩ | ⟨hb1, h⟩
  ·refine qN [(2, .b true), (6, .b true)] 200 ⟨[(2, .d t4 true)], []⟩ (aC hb0 (aC hb1 aN)) ?_
   refine Run.rt ?_
   obtain rfl := sI h
   exact qR [(.d t4 true)]
  ·rcases bif_elim h with ⟨hb2, h⟩ | ⟨hb2, h⟩
   ·refine qN [(2, .b true), (6, .b false), (9, .b true)] 200 ⟨[(2, .d t4 (decide (a0 ≤ (90 : Int))))], []⟩ (aC hb0 (aC hb1 (aC hb2 aN))) ?_
    refine Run.rt ?_
    obtain rfl := sI h
    exact qR [(.d t4 (decide (a0 ≤ (90 : Int))))]
   ·refine qN [(2, .b true), (6, .b false), (9, .b false)] 200 ⟨[(2, .d t4 false)], []⟩ (aC hb0 (aC hb1 (aC hb2 aN))) ?_
    refine Run.rt ?_
    obtain rfl := sI h
    exact qR [(.d t4 false)]
 ·rcases bif_elim h with ⟨hb1, h⟩ | ⟨hb1, h⟩
  ·refine qN [(2, .b false), (9, .b true)] 200 ⟨[(2, .d t4 (decide (a0 ≤ (90 : Int))))], []⟩ (aC hb0 (aC hb1 aN)) ?_
   refine Run.rt ?_
   obtain rfl := sI h
   exact qR [(.d t4 (decide (a0 ≤ (90 : Int))))]
  ·refine qN [(2, .b false), (9, .b false)] 200 ⟨[(2, .d t4 false)], []⟩ (aC hb0 (aC hb1 aN)) ?_
   refine Run.rt ?_
   obtain rfl := sI h
   exact qR [(.d t4 false)]

/-! ## f85 -/
noncomputable def c_85 : Code := body0 Go.Proofs.Tryz.f85
def fin85 (r : Bool) : Ex → St → Prop := endK X0 [.tmp 2] [4] (.d t4 r)
def F85 (a0 : Int) : Option (Bool) :=
 (bif (decide ((48 : Int) ≤ a0)) then
 some (decide (a0 ≤ (57 : Int)))
 else
 some false)
theorem c85 {a0 : Int} {r : Bool} (h : F85 a0 = some r) : CallPure Pg 85 [(.d t5 a0)] (.d t4 r) := by
 refine qC c_85 9 [.tmp 2] [4] Go.Proofs.Tryz.func85 ?_
 show Run Pg 9 c_85 ⟨[(0, .d t5 a0)], []⟩ (fin85 r)
 unfold F85 at h
 refine qN [] 100 ⟨[(0, .d t5 a0)], []⟩ aN ?_
 rcases bif_elim h with ⟨hb0, h⟩ | ⟨hb0, h⟩
 ·refine qN [(2, .b true)] 200 ⟨[(2, .d t4 (decide (a0 ≤ (57 : Int))))], []⟩ (aC hb0 aN) ?_
  refine Run.rt ?_
  obtain rfl := sI h
  exact qR [(.d t4 (decide (a0 ≤ (57 : Int))))]
 ·refine qN [(2, .b false)] 200 ⟨[(2, .d t4 false)], []⟩ (aC hb0 aN) ?_
  refine Run.rt ?_
  obtain rfl := sI h
  exact qR [(.d t4 false)]

/-! ## f135 -/
noncomputable def c_135 : Code := body0 Go.Proofs.Tryz.f135
def fin135 (r : RatL × Int) : Ex → St → Prop := endK X0 [.cell 4 70, .tmp 5] [70, 26] (.tup (.vcons (.d t69 r.1) (.vcons (.d t2 r.2) .vnil)))
def F135 (a0 : IntL) (a1 : IntL) : Option (RatL × Int) :=
 (F108 a1).bind fun y1 =>
 (bif (y1 == (0 : Int)) then
 some (((false, ([] : List Int)), (false, ([] : List Int))), (6 : Int))
 else
 (F67 a0 a1).bind fun y2 =>
 some (y2, (0 : Int)))
theorem c135 {a0 : IntL} {a1 : IntL} {r : RatL × Int} (h : F135 a0 a1 = some r) : CallPure Pg 135 [(.d t67 a0), (.d t67 a1)] (.tup (.vcons (.d t69 r.1) (.vcons (.d t2 r.2) .vnil))) := by
 refine qC c_135 13 [.cell 4 70, .tmp 5] [70, 26] Go.Proofs.Tryz.func135 ?_
 show Run Pg 13 c_135 ⟨[(0, .d t67 a0), (1, .d t67 a1)], []⟩ (fin135 r)
 unfold F135 at h
 refine qN [] 100 ⟨[(2, .ptr 100 0), (3, .ptr 101 0), (4, .ptr 102 0)], [(100, bx 68 t67 a0), (101, bx 68 t67 a1), (102, bx 70 t69 ((false, ([] : List Int)), (false, ([] : List Int))))]⟩ aN ?_
 refine Run.sq ?_
 obtain ⟨y1, h_y1, h⟩ := bnd_elim h
 refine qN [(1, .call (.d t2 y1))] 200 ⟨[(2, .ptr 100 0), (3, .ptr 101 0), (4, .ptr 102 0), (8, .d t4 (y1 == (0 : Int)))], [(100, bx 68 t67 a0), (101, bx 68 t67 a1), (102, bx 70 t69 ((false, ([] : List Int)), (false, ([] : List Int))))]⟩ (aC (c108 h_y1) aN) ?_
 refine Run.cd (y1 == (0 : Int)) (fun hb => ?_) (fun hb => ?_)
 ·replace h := bif_t h hb
  refine qN [] 300 ⟨[(4, .ptr 102 0), (5, .d t2 (6 : Int))], [(102, bx 70 t69 ((false, ([] : List Int)), (false, ([] : List Int))))]⟩ aN ?_
  refine Run.rt ?_
  obtain rfl := sI h
  exact qR [(.d t69 ((false, ([] : List Int)), (false, ([] : List Int)))), (.d t2 (6 : Int))]
 ·replace h := bif_f h hb
  refine Run.sk ?_
  show Run Pg 13 _ _ _
  obtain ⟨y2, h_y2, h⟩ := bnd_elim h
  refine qN [(2, .call (.d t69 y2))] 400 ⟨[(4, .ptr 102 0), (5, .d t2 (0 : Int))], [(102, bx 70 t69 y2)]⟩ (aC (c67 h_y2) aN) ?_
  refine Run.rt ?_
  obtain rfl := sI h
  exact qR [(.d t69 y2), (.d t2 (0 : Int))]

/-! ## f136 -/
noncomputable def c_136 : Code := body0 Go.Proofs.Tryz.f136
def fin136 (r : IntL) : Ex → St → Prop := endK X0 [.cell 2 68] [68] (.d t67 r)
def f136_l0_post (x3 : Int) (x5 : IntL) (x7 : IntL) : (IntL) → Ex → St → Prop
 | o, x, s => x = .out 0 ∧ s = ⟨[(2, .ptr 100 0), (3, .ptr 201 0)], [(100, bx 68 t67 x5), (201, bx 68 t67 o)]⟩
def f136_l0_b (x3 : Int) (x7 : IntL) (again : Int × IntL → Option (IntL)) : Int × IntL → Option (IntL)
 | (x4, x6) =>
 (bif (decide (x4 < x3)) then
 (F68 x6 x7).bind fun y9 =>
 again ((wrapI .i64 (x4 + (1 : Int))), y9)
 else
 some x6)
def f136_l0 (x3 : Int) (x7 : IntL) : Nat → Int × IntL → Option (IntL) := loopF (f136_l0_b x3 x7)
theorem f136_l0_ok (x3 : Int) (x5 : IntL) (x7 : IntL) (k : Nat) (x4 : Int) (x6 : IntL) {out : (IntL)} (h : f136_l0 x3 x7 k (x4, x6) = some out) : Run Pg 15 (bk1 (sq2 (sq1 (sq2 (sq2 (sq2 c_136)))))) ⟨[(2, .ptr 100 0), (3, .ptr 201 0), (4, .ptr 301 0), (7, .d t2 x3), (8, .d t2 x4)], [(100, bx 68 t67 x5), (201, bx 68 t67 x6), (301, bx 68 t67 x7)]⟩ (f136_l0_post x3 x5 x7 out) := by
 refine Run.loopN (by kernel_rfl) (fun m s => ∃ x4 x6, s = ⟨[(2, .ptr 100 0), (3, .ptr 201 0), (4, .ptr 301 0), (7, .d t2 x3), (8, .d t2 x4)], [(100, bx 68 t67 x5), (201, bx 68 t67 x6), (301, bx 68 t67 x7)]⟩ ∧ f136_l0 x3 x7 m (x4, x6) = some out) ?_ k ⟨x4, x6,  rfl, h⟩
 rintro m s ⟨x4, x6,  rfl, h⟩
 cases m with
 | zero => cases h
 | succ m =>
 replace h : f136_l0_b x3 x7 (f136_l0 x3 x7 m) (x4, x6) = some out := h
 unfold f136_l0_b at h
 refine qN [] 500 ⟨[(2, .ptr 100 0), (3, .ptr 201 0), (4, .ptr 301 0), (7, .d t2 x3), (8, .d t2 x4), (9, .d t4 (decide (x4 < x3)))], [(100, bx 68 t67 x5), (201, bx 68 t67 x6), (301, bx 68 t67 x7)]⟩ aN ?_
 refine Run.sq ?_
 refine Run.cd (decide (x4 < x3)) (fun hb => ?_) (fun hb => ?_)
 ·replace h := bif_t h hb
  refine Run.sk ?_
  show Run Pg 15 _ _ _
  refine Run.sq ?_
  refine Run.bl 1 ?_
  obtain ⟨y9, h_y9, h⟩ := bnd_elim h
  refine qE [(2, .call (.d t67 y9))] 600 ⟨[(2, .ptr 100 0), (3, .ptr 201 0), (4, .ptr 301 0), (7, .d t2 x3), (8, .d t2 x4)], [(100, bx 68 t67 x5), (201, bx 68 t67 y9), (301, bx 68 t67 x7)]⟩ (aC (c68 h_y9) aN) ?_
  show Run Pg 15 _ _ _
  refine qE [] 700 ⟨[(2, .ptr 100 0), (3, .ptr 201 0), (4, .ptr 301 0), (7, .d t2 x3), (8, .d t2 (wrapI .i64 (x4 + (1 : Int))))], [(100, bx 68 t67 x5), (201, bx 68 t67 y9), (301, bx 68 t67 x7)]⟩ aN ?_
  exact ⟨m, Nat.lt_succ_self m, _, _, rfl, h⟩
 ·replace h := bif_f h hb
  refine qK ⟨[(2, .ptr 100 0), (3, .ptr 201 0)], [(100, bx 68 t67 x5), (201, bx 68 t67 x6)]⟩ ?_
  refine Run.ex 0 ?_
  obtain rfl := sI h
  exact ⟨rfl, by kernel_rfl⟩
def F136 (a0 : Int) : Option (IntL) :=
 (F66 (1 : Int)).bind fun y1 =>
 (F66 (10 : Int)).bind fun y2 =>
 ((f136_l0 a0 y2 (2 + Int.toNat a0) ((0 : Int), y1)).bind fun o10 =>
 some o10)
theorem c136 {a0 : Int} {r : IntL} (h : F136 a0 = some r) : CallPure Pg 136 [(.d t2 a0)] (.d t67 r) := by
 refine qC c_136 15 [.cell 2 68] [68] Go.Proofs.Tryz.func136 ?_
 show Run Pg 15 c_136 ⟨[(0, .d t2 a0)], []⟩ (fin136 r)
 unfold F136 at h
 refine qN [] 100 ⟨[(0, .d t2 a0), (2, .ptr 100 0)], [(100, bx 68 t67 (false, ([] : List Int)))]⟩ aN ?_
 obtain ⟨y1, h_y1, h⟩ := bnd_elim h
 refine qN [(0, .call (.d t67 y1))] 200 ⟨[(0, .d t2 a0), (2, .ptr 100 0), (3, .ptr 201 0)], [(100, bx 68 t67 (false, ([] : List Int))), (201, bx 68 t67 y1)]⟩ (aC (c66 h_y1) aN) ?_
 obtain ⟨y2, h_y2, h⟩ := bnd_elim h
 refine qN [(0, .call (.d t67 y2))] 300 ⟨[(0, .d t2 a0), (2, .ptr 100 0), (3, .ptr 201 0), (4, .ptr 301 0)], [(100, bx 68 t67 (false, ([] : List Int))), (201, bx 68 t67 y1), (301, bx 68 t67 y2)]⟩ (aC (c66 h_y2) aN) ?_
 refine Run.sq ?_
 refine qN [] 400 ⟨[(2, .ptr 100 0), (3, .ptr 201 0), (4, .ptr 301 0), (7, .d t2 a0), (8, .d t2 (0 : Int))], [(100, bx 68 t67 (false, ([] : List Int))), (201, bx 68 t67 y1), (301, bx 68 t67 y2)]⟩ aN ?_
 refine Run.bl 0 ?_
 obtain ⟨o10, h_o10, h⟩ := bnd_elim h
 refine Run.mono (f136_l0_ok a0 (false, ([] : List Int)) y2 _ (0 : Int) y1 h_o10) ?_
 rintro _ _ ⟨rfl, rfl⟩
 show Run Pg 15 _ _ _
 refine qN [] 800 ⟨[(2, .ptr 100 0)], [(100, bx 68 t67 o10)]⟩ aN ?_
 refine Run.rt ?_
 obtain rfl := sI h
 exact qR [(.d t67 o10)]


end Go.Sw
