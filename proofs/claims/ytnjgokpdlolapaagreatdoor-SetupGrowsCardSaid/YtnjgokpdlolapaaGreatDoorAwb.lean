/- awake of the law hands back true, and what SetupGrows computes; no conditions. -/
import Derived.Test.YtnjgokpdlolapaaGreatDoorAw
namespace Go.Sw
open Go
set_option linter.unusedVariables false
theorem e19_0 : ((exFn E2 60 false 19 [.d .str (⟨#[115, 116, 111, 99, 107, 32, 48, 32, 48, 32, 49, 48, 48, 32, 54, 48, 32, 50, 48, 32, 53, 10, 115, 97, 102, 101, 32, 49, 53, 10, 99, 108, 97, 109, 112, 32, 48, 32, 48, 32, 49, 48, 32, 49, 48, 32, 56, 46, 53, 10]⟩ : ByteArray)] [] 300).map fun q => (q.1, q.2.2.2)) = some ((.tup (.vcons (.d t23 ((0 : Int), ((0 : Int), ((100000 : Int), ((60000 : Int), ((20000 : Int), ((5000 : Int), ([((0 : Int), ((0 : Int), ((10000 : Int), ((10000 : Int), (8500 : Int)))))], (15000 : Int))))))))) (.vcons (.d t2 (0 : Int)) (.vcons (.d t2 (0 : Int)) .vnil)))), false) := by kernel_rfl
def tab19 : List (ByteArray × V) := [((⟨#[115, 116, 111, 99, 107, 32, 48, 32, 48, 32, 49, 48, 48, 32, 54, 48, 32, 50, 48, 32, 53, 10, 115, 97, 102, 101, 32, 49, 53, 10, 99, 108, 97, 109, 112, 32, 48, 32, 48, 32, 49, 48, 32, 49, 48, 32, 56, 46, 53, 10]⟩ : ByteArray), (.tup (.vcons (.d t23 ((0 : Int), ((0 : Int), ((100000 : Int), ((60000 : Int), ((20000 : Int), ((5000 : Int), ([((0 : Int), ((0 : Int), ((10000 : Int), ((10000 : Int), (8500 : Int)))))], (15000 : Int))))))))) (.vcons (.d t2 (0 : Int)) (.vcons (.d t2 (0 : Int)) .vnil)))))]
theorem tab19_ok : TabOk Pg 19 tab19 := ⟨ex_pure hX2 kk2 rfl e19_0, trivial⟩
def kn3 (g : Nat) (vs : List V) : Option V := match g with
  | 19 => kS tab19 vs
  | g => kn2 g vs
theorem kn3_ok : ∀ g vs r, kn3 g vs = some r → CallPure Pg g vs r := by
  intro g vs r h
  unfold kn3 at h
  split at h
  · exact kS_ok tab19_ok h
  · exact kn2_ok _ _ _ h
noncomputable def E3 : Env := ⟨Pg, X0, kn3, bnA⟩
theorem hX3 : TyOk E3.P E3.X := hX
theorem kk3 : KnOk E3 := kn3_ok
end Go.Sw

namespace Go.Sw
open Go
set_option linter.unusedVariables false
theorem e7 : ((exFn E3 60 false 7 [] [] 300).map fun q => (q.1, q.2.2.2)) = some (.d .bool true, false) := by kernel_rfl
theorem awake_pure : CallPure Pg 7 [] (.d .bool true) := ex_pure hX3 kk3 rfl e7
end Go.Sw

namespace Go.Sw
open Go Go.Sw
set_option linter.unusedSimpArgs false
set_option linter.unusedVariables false

/-! ## f7 -/

def F7  : Option (Bool) :=
 some true

theorem c7 {r : Bool} (h : F7 = some r) : CallPure Pg 7 [] (.d t4 r) := by
  obtain rfl : true = r := Option.some.inj h
  exact awake_pure

/-! ## f5 -/

noncomputable def c_5 : Code := body0 Go.Proofs.Tryz.f5

def fin5 (r : Bool) : Ex → St → Prop := endK X0 [.tmp 6] [4] (.d t4 r)

def f5_l0_post (x7 : Int) (x8 : Bool) (x9 : List ((Int × Int) × (Int × Int) × Int)) (x10 : Int) (x12 : Int × Int × Int × Int × Int × Int × (List (Int × Int × Int × Int × Int)) × Int) : ((Unit) ⊕ (Bool)) → Ex → St → Prop
 | .inl o, x, s => x = .out 0 ∧ s = ⟨[], []⟩
 | .inr o, x, s => x = .ret ∧ fin5  o x s

def f5_l0_b (x7 : Int) (x8 : Bool) (x9 : List ((Int × Int) × (Int × Int) × Int)) (x10 : Int) (x12 : Int × Int × Int × Int × Int × Int × (List (Int × Int × Int × Int × Int)) × Int) (again : Int → Option ((Unit) ⊕ (Bool))) : Int → Option ((Unit) ⊕ (Bool))
 | x11 =>
 (bif (decide (x11 < x10)) then
 gd (0 ≤ x11) <|
 gd (x11 < ((List.length x9 : Nat) : Int)) <|
 (F13 x12 (List.getD x9 (toN x11) (((0 : Int), (0 : Int)), ((0 : Int), (0 : Int)), (0 : Int))).1 (List.getD x9 (toN x11) (((0 : Int), (0 : Int)), ((0 : Int), (0 : Int)), (0 : Int))).2.1 (List.getD x9 (toN x11) (((0 : Int), (0 : Int)), ((0 : Int), (0 : Int)), (0 : Int))).2.2).bind fun y14 =>
 (bif y14.2 then
 (bif (!x8) then
 some (.inr false)
 else
 (bif (decide (x7 < y14.1)) then
 some (.inr false)
 else
 again (wrapI .i64 (x11 + (1 : Int)))))
 else
 again (wrapI .i64 (x11 + (1 : Int))))
 else
 some (.inl ()))

def f5_l0 (x7 : Int) (x8 : Bool) (x9 : List ((Int × Int) × (Int × Int) × Int)) (x10 : Int) (x12 : Int × Int × Int × Int × Int × Int × (List (Int × Int × Int × Int × Int)) × Int) : Nat → Int → Option ((Unit) ⊕ (Bool)) := loopF (f5_l0_b x7 x8 x9 x10 x12)

theorem f5_l0_ok (x7 : Int) (x8 : Bool) (x9 : List ((Int × Int) × (Int × Int) × Int)) (x10 : Int) (x12 : Int × Int × Int × Int × Int × Int × (List (Int × Int × Int × Int × Int)) × Int) (k : Nat) (x11 : Int) {out : ((Unit) ⊕ (Bool))} (h : f5_l0 x7 x8 x9 x10 x12 k x11 = some out) : Run Pg 91 (bk1 (sq2 (sq1 (sq2 (sq2 (sq2 c_5)))))) ⟨[(3, (.ptr 100 0)), (7, (.d t2 x7)), (8, (.d t4 x8)), (63, (.d t38 x9)), (64, (.d t2 x10)), (65, (.d t2 x11))], [(100, (.box 24 (.vcons (.d t23 x12) .vnil)))]⟩ (f5_l0_post x7 x8 x9 x10 x12 out) := by
  refine Run.loopN (by kernel_rfl) (fun m s => ∃ x11, s = ⟨[(3, (.ptr 100 0)), (7, (.d t2 x7)), (8, (.d t4 x8)), (63, (.d t38 x9)), (64, (.d t2 x10)), (65, (.d t2 x11))], [(100, (.box 24 (.vcons (.d t23 x12) .vnil)))]⟩ ∧ f5_l0 x7 x8 x9 x10 x12 m x11 = some out) ?_ k ⟨x11,  rfl, h⟩
  rintro m s ⟨x11,  rfl, h⟩
  cases m with
  | zero => cases h
  | succ m =>
  replace h : f5_l0_b x7 x8 x9 x10 x12 (f5_l0 x7 x8 x9 x10 x12 m) x11 = some out := h
  unfold f5_l0_b at h
  refine Run.rN hX [] 600 [3, 7, 8, 63, 64, 65, 66] [100] ⟨[(3, (.ptr 100 0)), (7, (.d t2 x7)), (8, (.d t4 x8)), (63, (.d t38 x9)), (64, (.d t2 x10)), (65, (.d t2 x11)), (66, (.d t4 (decide (x11 < x10))))], [(100, (.box 24 (.vcons (.d t23 x12) .vnil)))]⟩ aN ?_
  refine Run.sq ?_
  refine Run.cd (decide (x11 < x10)) (fun hb => ?_) (fun hb => ?_)
  · replace h := bif_t h hb
    refine Run.sk ?_
    show Run Pg 91 _ _ _
    refine Run.sq ?_
    refine Run.bl 1 ?_
    obtain ⟨g_0, h⟩ := gd_elim h
    obtain ⟨g_1, h⟩ := gd_elim h
    refine Run.rN hX [] 700 [3, 7, 8, 10, 63, 64, 65] [100, 702] ⟨[(3, (.ptr 100 0)), (7, (.d t2 x7)), (8, (.d t4 x8)), (10, (.ptr 702 0)), (63, (.d t38 x9)), (64, (.d t2 x10)), (65, (.d t2 x11))], [(100, (.box 24 (.vcons (.d t23 x12) .vnil))), (702, (.box 37 (.vcons (.d t37 (List.getD x9 (toN x11) (((0 : Int), (0 : Int)), ((0 : Int), (0 : Int)), (0 : Int)))) .vnil)))]⟩ (aC g_0 (aC g_1 aN)) ?_
    obtain ⟨y14, h_y14, h⟩ := bnd_elim h
    refine Run.rN hX [(7, .call (.tup (.vcons (.d t2 y14.1) (.vcons (.d t4 y14.2) .vnil))))] 800 [3, 7, 8, 11, 12, 63, 64, 65] [100] ⟨[(3, (.ptr 100 0)), (7, (.d t2 x7)), (8, (.d t4 x8)), (11, (.d t2 y14.1)), (12, (.d t4 y14.2)), (63, (.d t38 x9)), (64, (.d t2 x10)), (65, (.d t2 x11))], [(100, (.box 24 (.vcons (.d t23 x12) .vnil)))]⟩ (aC (c13 h_y14) aN) ?_
    rcases bif_elim h with ⟨hb0, h⟩ | ⟨hb0, h⟩
    · rcases bif_elim h with ⟨hb1, h⟩ | ⟨hb1, h⟩
      · refine Run.rN hX [(1, .b true), (4, .b true)] 900 [3, 7, 8, 63, 64, 65, 89] [100] ⟨[(3, (.ptr 100 0)), (7, (.d t2 x7)), (8, (.d t4 x8)), (63, (.d t38 x9)), (64, (.d t2 x10)), (65, (.d t2 x11)), (89, (.d t4 true))], [(100, (.box 24 (.vcons (.d t23 x12) .vnil)))]⟩ (aC hb0 (aC hb1 aN)) ?_
        refine Run.cd true (fun hb => ?_) (fun hb => (by cases hb))
        refine Run.rN hX [] 1000 [6] [] ⟨[(6, (.d t4 false))], []⟩ aN ?_
        refine Run.rt ?_
        obtain rfl := sI h
        exact ⟨rfl, [(.d t4 false)], by kernel_rfl, by kernel_rfl⟩
      · refine Run.rN hX [(1, .b true), (4, .b false)] 900 [3, 7, 8, 63, 64, 65, 89] [100] ⟨[(3, (.ptr 100 0)), (7, (.d t2 x7)), (8, (.d t4 x8)), (63, (.d t38 x9)), (64, (.d t2 x10)), (65, (.d t2 x11)), (89, (.d t4 (decide (x7 < y14.1))))], [(100, (.box 24 (.vcons (.d t23 x12) .vnil)))]⟩ (aC hb0 (aC hb1 aN)) ?_
        refine Run.cd (decide (x7 < y14.1)) (fun hb => ?_) (fun hb => ?_)
        · replace h := bif_t h hb
          refine Run.rN hX [] 1000 [6] [] ⟨[(6, (.d t4 false))], []⟩ aN ?_
          refine Run.rt ?_
          obtain rfl := sI h
          exact ⟨rfl, [(.d t4 false)], by kernel_rfl, by kernel_rfl⟩
        · replace h := bif_f h hb
          refine Run.sk ?_
          show Run Pg 91 _ _ _
          refine Run.rE hX [] 1100 [3, 7, 8, 63, 64, 65] [100] ⟨[(3, (.ptr 100 0)), (7, (.d t2 x7)), (8, (.d t4 x8)), (63, (.d t38 x9)), (64, (.d t2 x10)), (65, (.d t2 (wrapI .i64 (x11 + (1 : Int)))))], [(100, (.box 24 (.vcons (.d t23 x12) .vnil)))]⟩ aN ?_
          exact ⟨m, Nat.lt_succ_self m, _, rfl, h⟩
    · refine Run.rN hX [(1, .b false)] 900 [3, 7, 8, 63, 64, 65, 89] [100] ⟨[(3, (.ptr 100 0)), (7, (.d t2 x7)), (8, (.d t4 x8)), (63, (.d t38 x9)), (64, (.d t2 x10)), (65, (.d t2 x11)), (89, (.d t4 false))], [(100, (.box 24 (.vcons (.d t23 x12) .vnil)))]⟩ (aC hb0 aN) ?_
      refine Run.cd false (fun hb => (by cases hb)) (fun hb => ?_)
      refine Run.sk ?_
      show Run Pg 91 _ _ _
      refine Run.rE hX [] 1100 [3, 7, 8, 63, 64, 65] [100] ⟨[(3, (.ptr 100 0)), (7, (.d t2 x7)), (8, (.d t4 x8)), (63, (.d t38 x9)), (64, (.d t2 x10)), (65, (.d t2 (wrapI .i64 (x11 + (1 : Int)))))], [(100, (.box 24 (.vcons (.d t23 x12) .vnil)))]⟩ aN ?_
      exact ⟨m, Nat.lt_succ_self m, _, rfl, h⟩
  · replace h := bif_f h hb
    refine Run.kp (s' := ⟨[], []⟩) [] [] ?_
    refine Run.ex 0 ?_
    obtain rfl := sI h
    exact ⟨rfl, by kernel_rfl⟩

def F5 (a0 : Int × Int × Int × Int × Int × Int × (List (Int × Int × Int × Int × Int)) × Int) (a1 : (Int × Int) × (Int × Int)) (a2 : Int) : Option (Bool) :=
 (F7 ).bind fun y1 =>
 (bif (!y1) then
 (F7 ).bind fun y3 =>
 some y3
 else
 (F12 a0 a1 a2).bind fun y2 =>
 (bif (!y2) then
 (F7 ).bind fun y4 =>
 some y4
 else
 (bif (decide (a2 < (1 : Int))) then
 (F7 ).bind fun y5 =>
 some y5
 else
 (F13 a0 a1.1 a1.2 a2).bind fun y6 =>
 ((f5_l0 y6.1 y6.2 ([(a1.1, a1.2, (wrapI .i64 (a2 - (1 : Int)))), (a1.1, a1.2, (wrapI .i64 (Int.tdiv a2 (2 : Int)))), (a1.1, a1.1, a2), (a1.2, a1.2, a2)] : List ((Int × Int) × (Int × Int) × Int)) (ofN (List.length ([(a1.1, a1.2, (wrapI .i64 (a2 - (1 : Int)))), (a1.1, a1.2, (wrapI .i64 (Int.tdiv a2 (2 : Int)))), (a1.1, a1.1, a2), (a1.2, a1.2, a2)] : List ((Int × Int) × (Int × Int) × Int)))) a0 (2 + List.length ([(a1.1, a1.2, (wrapI .i64 (a2 - (1 : Int)))), (a1.1, a1.2, (wrapI .i64 (Int.tdiv a2 (2 : Int)))), (a1.1, a1.1, a2), (a1.2, a1.2, a2)] : List ((Int × Int) × (Int × Int) × Int)) + List.length a0.2.2.2.2.2.2.1) (0 : Int)).bind fun o15 => match o15 with
 | .inl o16 =>
 some true
 | .inr o17 =>
 some o17))))

theorem c5 {a0 : Int × Int × Int × Int × Int × Int × (List (Int × Int × Int × Int × Int)) × Int} {a1 : (Int × Int) × (Int × Int)} {a2 : Int} {r : Bool} (h : F5 a0 a1 a2 = some r) : CallPure Pg 5 [(.d t23 a0), (.d t33 a1), (.d t2 a2)] (.d t4 r) := by
  refine callPureN hX c_5 91 [.tmp 6] [4] Go.Proofs.Tryz.func5 (by kernel_rfl) (by kernel_rfl) (by kernel_rfl) (Nat.le_of_ble_eq_true rfl) rfl rfl ?_
  show Run Pg 91 c_5 ⟨[(0, (.d t23 a0)), (1, (.d t33 a1)), (2, (.d t2 a2))], []⟩ (fin5 r)
  unfold F5 at h
  refine Run.rN hX [] 100 [2, 3, 4] [100, 101] ⟨[(2, (.d t2 a2)), (3, (.ptr 100 0)), (4, (.ptr 101 0))], [(100, (.box 24 (.vcons (.d t23 a0) .vnil))), (101, (.box 33 (.vcons (.d t33 a1) .vnil)))]⟩ aN ?_
  refine Run.sq ?_
  obtain ⟨y1, h_y1, h⟩ := bnd_elim h
  rcases bif_elim h with ⟨hb1, h⟩ | ⟨hb1, h⟩
  · refine Run.rN hX [(0, .call (.d t4 y1)), (2, .b true)] 200 [2, 3, 4, 25] [100, 101] ⟨[(2, (.d t2 a2)), (3, (.ptr 100 0)), (4, (.ptr 101 0)), (25, (.d t4 true))], [(100, (.box 24 (.vcons (.d t23 a0) .vnil))), (101, (.box 33 (.vcons (.d t33 a1) .vnil)))]⟩ (aC (c7 h_y1) (aC hb1 aN)) ?_
    refine Run.cd true (fun hb => ?_) (fun hb => (by cases hb))
    obtain ⟨y3, h_y3, h⟩ := bnd_elim h
    refine Run.rN hX [(0, .call (.d t4 y3))] 300 [6] [] ⟨[(6, (.d t4 y3))], []⟩ (aC (c7 h_y3) aN) ?_
    refine Run.rt ?_
    obtain rfl := sI h
    exact ⟨[(.d t4 y3)], by kernel_rfl, by kernel_rfl⟩
  · obtain ⟨y2, h_y2, h⟩ := bnd_elim h
    rcases bif_elim h with ⟨hb3, h⟩ | ⟨hb3, h⟩
    · refine Run.rN hX [(0, .call (.d t4 y1)), (2, .b false), (6, .call (.d t4 y2)), (9, .b true)] 200 [2, 3, 4, 25] [100, 101] ⟨[(2, (.d t2 a2)), (3, (.ptr 100 0)), (4, (.ptr 101 0)), (25, (.d t4 true))], [(100, (.box 24 (.vcons (.d t23 a0) .vnil))), (101, (.box 33 (.vcons (.d t33 a1) .vnil)))]⟩ (aC (c7 h_y1) (aC hb1 (aC (c12 h_y2) (aC hb3 aN)))) ?_
      refine Run.cd true (fun hb => ?_) (fun hb => (by cases hb))
      obtain ⟨y4, h_y4, h⟩ := bnd_elim h
      refine Run.rN hX [(0, .call (.d t4 y4))] 300 [6] [] ⟨[(6, (.d t4 y4))], []⟩ (aC (c7 h_y4) aN) ?_
      refine Run.rt ?_
      obtain rfl := sI h
      exact ⟨[(.d t4 y4)], by kernel_rfl, by kernel_rfl⟩
    · refine Run.rN hX [(0, .call (.d t4 y1)), (2, .b false), (6, .call (.d t4 y2)), (9, .b false)] 200 [2, 3, 4, 25] [100, 101] ⟨[(2, (.d t2 a2)), (3, (.ptr 100 0)), (4, (.ptr 101 0)), (25, (.d t4 (decide (a2 < (1 : Int)))))], [(100, (.box 24 (.vcons (.d t23 a0) .vnil))), (101, (.box 33 (.vcons (.d t33 a1) .vnil)))]⟩ (aC (c7 h_y1) (aC hb1 (aC (c12 h_y2) (aC hb3 aN)))) ?_
      refine Run.cd (decide (a2 < (1 : Int))) (fun hb => ?_) (fun hb => ?_)
      · replace h := bif_t h hb
        obtain ⟨y5, h_y5, h⟩ := bnd_elim h
        refine Run.rN hX [(0, .call (.d t4 y5))] 300 [6] [] ⟨[(6, (.d t4 y5))], []⟩ (aC (c7 h_y5) aN) ?_
        refine Run.rt ?_
        obtain rfl := sI h
        exact ⟨[(.d t4 y5)], by kernel_rfl, by kernel_rfl⟩
      · replace h := bif_f h hb
        refine Run.sk ?_
        show Run Pg 91 _ _ _
        obtain ⟨y6, h_y6, h⟩ := bnd_elim h
        refine Run.rN hX [(6, .call (.tup (.vcons (.d t2 y6.1) (.vcons (.d t4 y6.2) .vnil))))] 400 [2, 3, 4, 7, 8] [100, 101] ⟨[(2, (.d t2 a2)), (3, (.ptr 100 0)), (4, (.ptr 101 0)), (7, (.d t2 y6.1)), (8, (.d t4 y6.2))], [(100, (.box 24 (.vcons (.d t23 a0) .vnil))), (101, (.box 33 (.vcons (.d t33 a1) .vnil)))]⟩ (aC (show (0 ≤ (0 : Int)) from (by decide)) (aC (show (0 ≤ (1 : Int)) from (by decide)) (aC (c13 h_y6) aN))) ?_
        refine Run.sq ?_
        refine Run.rN hX [] 500 [3, 7, 8, 63, 64, 65] [100] ⟨[(3, (.ptr 100 0)), (7, (.d t2 y6.1)), (8, (.d t4 y6.2)), (63, (.d t38 ([(a1.1, a1.2, (wrapI .i64 (a2 - (1 : Int)))), (a1.1, a1.2, (wrapI .i64 (Int.tdiv a2 (2 : Int)))), (a1.1, a1.1, a2), (a1.2, a1.2, a2)] : List ((Int × Int) × (Int × Int) × Int)))), (64, (.d t2 (ofN (List.length ([(a1.1, a1.2, (wrapI .i64 (a2 - (1 : Int)))), (a1.1, a1.2, (wrapI .i64 (Int.tdiv a2 (2 : Int)))), (a1.1, a1.1, a2), (a1.2, a1.2, a2)] : List ((Int × Int) × (Int × Int) × Int)))))), (65, (.d t2 (0 : Int)))], [(100, (.box 24 (.vcons (.d t23 a0) .vnil)))]⟩ (aC (show (0 ≤ (0 : Int)) from (by decide)) (aC (show (0 ≤ (1 : Int)) from (by decide)) (aC (show (0 ≤ (0 : Int)) from (by decide)) (aC (show (0 ≤ (1 : Int)) from (by decide)) (aC (show ((2 : Int) ≠ 0) from (by decide)) (aC (show (0 ≤ (0 : Int)) from (by decide)) (aC (show (0 ≤ (0 : Int)) from (by decide)) (aC (show (0 ≤ (1 : Int)) from (by decide)) (aC (show (0 ≤ (1 : Int)) from (by decide)) aN))))))))) ?_
        refine Run.bl 0 ?_
        obtain ⟨o15, h_o15, h⟩ := bnd_elim h
        refine Run.mono (f5_l0_ok y6.1 y6.2 ([(a1.1, a1.2, (wrapI .i64 (a2 - (1 : Int)))), (a1.1, a1.2, (wrapI .i64 (Int.tdiv a2 (2 : Int)))), (a1.1, a1.1, a2), (a1.2, a1.2, a2)] : List ((Int × Int) × (Int × Int) × Int)) (ofN (List.length ([(a1.1, a1.2, (wrapI .i64 (a2 - (1 : Int)))), (a1.1, a1.2, (wrapI .i64 (Int.tdiv a2 (2 : Int)))), (a1.1, a1.1, a2), (a1.2, a1.2, a2)] : List ((Int × Int) × (Int × Int) × Int)))) a0 _ (0 : Int) h_o15) ?_
        rcases o15 with o16 | o17
        · rintro _ _ ⟨rfl, rfl⟩
          show Run Pg 91 _ _ _
          refine Run.rN hX [] 1200 [6] [] ⟨[(6, (.d t4 true))], []⟩ aN ?_
          refine Run.rt ?_
          obtain rfl := sI h
          exact ⟨[(.d t4 true)], by kernel_rfl, by kernel_rfl⟩
        · rintro _ s ⟨rfl, hr⟩
          obtain rfl := sI h
          exact hr

end Go.Sw
