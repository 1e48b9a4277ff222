/- Each function of the code computes the Lean function of the same number wherever that has a value; no other conditions. -/
import Derived.Test.YtnjgokpdlolapaaGreatDoorGa
namespace Go.Sw
open Go Go.Sw
set_option linter.unusedSimpArgs false
set_option linter.unusedVariables false

/-! ## f29 -/
noncomputable def c_29 : Code := body0 Go.Proofs.Tryz.f29
def fin29 (r : Bool) : Ex → St → Prop := endK X0 [.tmp 4] [4] (.d t4 r)
def F29 (a0 : Int) (a1 : Int) : Option (Bool) :=
 (bif (decide (a1 ≤ a0)) then
 some (decide (a0 ≤ (10000000 : Int)))
 else
 some false)
theorem c29 {a0 : Int} {a1 : Int} {r : Bool} (h : F29 a0 a1 = some r) : CallPure Pg 29 [(.d t2 a0), (.d t2 a1)] (.d t4 r) := by
 refine qC c_29 12 [.tmp 4] [4] Go.Proofs.Tryz.func29 ?_
 show Run Pg 12 c_29 ⟨[(0, .d t2 a0), (1, .d t2 a1)], []⟩ (fin29 r)
 unfold F29 at h
 refine qN [] 100 ⟨[(0, .d t2 a0), (1, .d t2 a1)], []⟩ aN ?_
 rcases bif_elim h with ⟨hb0, h⟩ | ⟨hb0, h⟩
 ·refine qN [(3, .b true)] 200 ⟨[(4, .d t4 (decide (a0 ≤ (10000000 : Int))))], []⟩ (aC hb0 aN) ?_
  refine Run.rt ?_
  obtain rfl := sI h
  exact qR [(.d t4 (decide (a0 ≤ (10000000 : Int))))]
 ·refine qN [(3, .b false)] 200 ⟨[(4, .d t4 false)], []⟩ (aC hb0 aN) ?_
  refine Run.rt ?_
  obtain rfl := sI h
  exact qR [(.d t4 false)]

/-! ## f28 -/
noncomputable def c_28 : Code := body0 Go.Proofs.Tryz.f28
def fin28 (r : Bool) : Ex → St → Prop := endK X0 [.tmp 8] [4] (.d t4 r)
def F28 (a0 : Int) (a1 : Int) (a2 : Int) (a3 : Int) : Option (Bool) :=
 (F29 a0 (-10000000 : Int)).bind fun y1 =>
 (bif y1 then
 (F29 a1 (-10000000 : Int)).bind fun y2 =>
 (bif y2 then
 (F29 a2 (-10000000 : Int)).bind fun y3 =>
 (bif y3 then
 (F29 a3 (-10000000 : Int)).bind fun y4 =>
 (bif y4 then
 (bif (decide (a0 < a2)) then
 some (decide (a1 < a3))
 else
 some false)
 else
 some false)
 else
 some false)
 else
 some false)
 else
 some false)
theorem c28 {a0 : Int} {a1 : Int} {a2 : Int} {a3 : Int} {r : Bool} (h : F28 a0 a1 a2 a3 = some r) : CallPure Pg 28 [(.d t2 a0), (.d t2 a1), (.d t2 a2), (.d t2 a3)] (.d t4 r) := by
 refine qC c_28 38 [.tmp 8] [4] Go.Proofs.Tryz.func28 ?_
 show Run Pg 38 c_28 ⟨[(0, .d t2 a0), (1, .d t2 a1), (2, .d t2 a2), (3, .d t2 a3)], []⟩ (fin28 r)
 unfold F28 at h
 refine qN [] 100 ⟨[(0, .d t2 a0), (1, .d t2 a1), (2, .d t2 a2), (3, .d t2 a3)], []⟩ aN ?_
 refine qN [] 200 ⟨[(0, .d t2 a0), (1, .d t2 a1), (2, .d t2 a2), (3, .d t2 a3), (9, .d t2 (-10000000 : Int))], []⟩ aN ?_
 obtain ⟨y1, h_y1, h⟩ := bnd_elim h
 rcases bif_elim h with ⟨hb1, h⟩ | ⟨hb1, h⟩
 ·obtain ⟨y2, h_y2, h⟩ := bnd_elim h
  rcases bif_elim h with ⟨hb3, h⟩ | ⟨hb3, h⟩
  ·obtain ⟨y3, h_y3, h⟩ := bnd_elim h
   rcases bif_elim h with ⟨hb5, h⟩ | ⟨hb5, h⟩
   ·obtain ⟨y4, h_y4, h⟩ := bnd_elim h
    rcases bif_elim h with ⟨hb7, h⟩ | ⟨hb7, h⟩
    ·rcases bif_elim h with ⟨hb8, h⟩ | ⟨hb8, h⟩
     ·refine qN [(2, .call (.d t4 y1)), (3, .b true), (6, .call (.d t4 y2)), (8, .b true), (11, .call (.d t4 y3)), (13, .b true), (16, .call (.d t4 y4)), (18, .b true), (23, .b true)] 300 ⟨[(8, .d t4 (decide (a1 < a3)))], []⟩ (aC (c29 h_y1) (aC hb1 (aC (c29 h_y2) (aC hb3 (aC (c29 h_y3) (aC hb5 (aC (c29 h_y4) (aC hb7 (aC hb8 aN))))))))) ?_
      refine Run.rt ?_
      obtain rfl := sI h
      exact qR [(.d t4 (decide (a1 < a3)))]
     ·refine qN [(2, .call (.d t4 y1)), (3, .b true), (6, .call (.d t4 y2)), (8, .b true), (11, .call (.d t4 y3)), (13, .b true), (16, .call (.d t4 y4)), (18, .b true), (23, .b false)] 300 ⟨[(8, .d t4 false)], []⟩ (aC (c29 h_y1) (aC hb1 (aC (c29 h_y2) (aC hb3 (aC (c29 h_y3) (aC hb5 (aC (c29 h_y4) (aC hb7 (aC hb8 aN))))))))) ?_
      refine Run.rt ?_
      obtain rfl := sI h
      exact qR [(.d t4 false)]
    ·refine qN [(2, .call (.d t4 y1)), (3, .b true), (6, .call (.d t4 y2)), (8, .b true), (11, .call (.d t4 y3)), (13, .b true), (16, .call (.d t4 y4)), (18, .b false)] 300 ⟨[(8, .d t4 false)], []⟩ (aC (c29 h_y1) (aC hb1 (aC (c29 h_y2) (aC hb3 (aC (c29 h_y3) (aC hb5 (aC (c29 h_y4) (aC hb7 aN)))))))) ?_
     refine Run.rt ?_
     obtain rfl := sI h
     exact qR [(.d t4 false)]
   ·refine qN [(2, .call (.d t4 y1)), (3, .b true), (6, .call (.d t4 y2)), (8, .b true), (11, .call (.d t4 y3)), (13, .b false)] 300 ⟨[(8, .d t4 false)], []⟩ (aC (c29 h_y1) (aC hb1 (aC (c29 h_y2) (aC hb3 (aC (c29 h_y3) (aC hb5 aN)))))) ?_
    refine Run.rt ?_
    obtain rfl := sI h
    exact qR [(.d t4 false)]
  ·refine qN [(2, .call (.d t4 y1)), (3, .b true), (6, .call (.d t4 y2)), (8, .b false)] 300 ⟨[(8, .d t4 false)], []⟩ (aC (c29 h_y1) (aC hb1 (aC (c29 h_y2) (aC hb3 aN)))) ?_
   refine Run.rt ?_
   obtain rfl := sI h
   exact qR [(.d t4 false)]
 ·refine qN [(2, .call (.d t4 y1)), (3, .b false)] 300 ⟨[(8, .d t4 false)], []⟩ (aC (c29 h_y1) (aC hb1 aN)) ?_
  refine Run.rt ?_
  obtain rfl := sI h
  exact qR [(.d t4 false)]

/-! ## f11 -/
noncomputable def c_11 : Code := body0 Go.Proofs.Tryz.f11
def fin11 (r : Int) : Ex → St → Prop := endK X0 [.tmp 2] [26] (.d t2 r)
def f11_l0_post (x4 : Int × Int × Int × Int × Int × Int × (List (Int × Int × Int × Int × Int)) × Int) : (Bool) → Ex → St → Prop
 | o, x, s => x = .out 0 ∧ s = ⟨[(3, .d t4 o)], []⟩
def f11_l0_b (x4 : Int × Int × Int × Int × Int × Int × (List (Int × Int × Int × Int × Int)) × Int) (again : Bool × Int → Option (Bool)) : Bool × Int → Option (Bool)
 | (x2, x3) =>
 (bif (decide (x3 < (ofN (List.length x4.2.2.2.2.2.2.1)))) then
 (bif x2 then
 gd (0 ≤ x3) <|
 gd (x3 < ((List.length x4.2.2.2.2.2.2.1 : Nat) : Int)) <|
 (F28 (List.getD x4.2.2.2.2.2.2.1 (toN x3) ((0 : Int), (0 : Int), (0 : Int), (0 : Int), (0 : Int))).1 (List.getD x4.2.2.2.2.2.2.1 (toN x3) ((0 : Int), (0 : Int), (0 : Int), (0 : Int), (0 : Int))).2.1 (List.getD x4.2.2.2.2.2.2.1 (toN x3) ((0 : Int), (0 : Int), (0 : Int), (0 : Int), (0 : Int))).2.2.1 (List.getD x4.2.2.2.2.2.2.1 (toN x3) ((0 : Int), (0 : Int), (0 : Int), (0 : Int), (0 : Int))).2.2.2.1).bind fun y6 =>
 (bif y6 then
 (F29 (List.getD x4.2.2.2.2.2.2.1 (toN x3) ((0 : Int), (0 : Int), (0 : Int), (0 : Int), (0 : Int))).2.2.2.2 (max2i (wrapI .i64 ((wrapI .i64 (0 - x4.2.2.2.2.1)) - x4.2.2.2.2.2.1)) (-10000000 : Int))).bind fun y7 =>
 (bif y7 then
 again ((decide ((List.getD x4.2.2.2.2.2.2.1 (toN x3) ((0 : Int), (0 : Int), (0 : Int), (0 : Int), (0 : Int))).2.2.2.2 < x4.2.2.2.2.2.2.2)), (wrapI .i64 (x3 + (1 : Int))))
 else
 again (false, (wrapI .i64 (x3 + (1 : Int)))))
 else
 again (false, (wrapI .i64 (x3 + (1 : Int)))))
 else
 some x2)
 else
 some x2)
def f11_l0 (x4 : Int × Int × Int × Int × Int × Int × (List (Int × Int × Int × Int × Int)) × Int) : Nat → Bool × Int → Option (Bool) := loopF (f11_l0_b x4)
theorem f11_l0_ok (x4 : Int × Int × Int × Int × Int × Int × (List (Int × Int × Int × Int × Int)) × Int) (k : Nat) (x2 : Bool) (x3 : Int) {out : (Bool)} (h : f11_l0 x4 k (x2, x3) = some out) : Run Pg 81 (bk1 (sq2 (sq1 (sq2 (sq2 c_11))))) ⟨[(1, .ptr 100 0), (3, .d t4 x2), (4, .d t2 x3)], [(100, bx 24 t23 x4)]⟩ (f11_l0_post x4 out) := by
 refine Run.loopN (by kernel_rfl) (fun m s => ∃ x2 x3, s = ⟨[(1, .ptr 100 0), (3, .d t4 x2), (4, .d t2 x3)], [(100, bx 24 t23 x4)]⟩ ∧ f11_l0 x4 m (x2, x3) = some out) ?_ k ⟨x2, x3,  rfl, h⟩
 rintro m s ⟨x2, x3,  rfl, h⟩
 cases m with
 | zero => cases h
 | succ m =>
 replace h : f11_l0_b x4 (f11_l0 x4 m) (x2, x3) = some out := h
 unfold f11_l0_b at h
 refine Run.sq ?_
 rcases bif_elim h with ⟨hb0, h⟩ | ⟨hb0, h⟩
 ·refine qN [(5, .b true)] 400 ⟨[(1, .ptr 100 0), (3, .d t4 x2), (4, .d t2 x3), (43, .d t4 x2)], [(100, bx 24 t23 x4)]⟩ (aC hb0 aN) ?_
  refine Run.cd x2 (fun hb => ?_) (fun hb => ?_)
  ·replace h := bif_t h hb
   refine Run.sk ?_
   show Run Pg 81 _ _ _
   refine Run.sq ?_
   refine Run.bl 1 ?_
   obtain ⟨g_0, h⟩ := gd_elim h
   obtain ⟨g_1, h⟩ := gd_elim h
   refine qN [] 600 ⟨[(1, .ptr 100 0), (4, .d t2 x3), (5, .ptr 605 0)], [(100, bx 24 t23 x4), (605, bx 57 t56 (List.getD x4.2.2.2.2.2.2.1 (toN x3) ((0 : Int), (0 : Int), (0 : Int), (0 : Int), (0 : Int))))]⟩ (aC g_0 (aC g_1 aN)) ?_
   obtain ⟨y6, h_y6, h⟩ := bnd_elim h
   rcases bif_elim h with ⟨hb1, h⟩ | ⟨hb1, h⟩
   ·obtain ⟨y7, h_y7, h⟩ := bnd_elim h
    rcases bif_elim h with ⟨hb3, h⟩ | ⟨hb3, h⟩
    ·refine qE [(8, .call (.d t4 y6)), (9, .b true), (19, .call (.d t4 y7)), (21, .b true)] 700 ⟨[(1, .ptr 100 0), (3, .d t4 (decide ((List.getD x4.2.2.2.2.2.2.1 (toN x3) ((0 : Int), (0 : Int), (0 : Int), (0 : Int), (0 : Int))).2.2.2.2 < x4.2.2.2.2.2.2.2))), (4, .d t2 x3)], [(100, bx 24 t23 x4)]⟩ (aC (c28 h_y6) (aC hb1 (aC (c29 h_y7) (aC hb3 aN)))) ?_
     show Run Pg 81 _ _ _
     refine qE [] 500 ⟨[(1, .ptr 100 0), (3, .d t4 (decide ((List.getD x4.2.2.2.2.2.2.1 (toN x3) ((0 : Int), (0 : Int), (0 : Int), (0 : Int), (0 : Int))).2.2.2.2 < x4.2.2.2.2.2.2.2))), (4, .d t2 (wrapI .i64 (x3 + (1 : Int))))], [(100, bx 24 t23 x4)]⟩ aN ?_
     exact ⟨m, Nat.lt_succ_self m, _, _, rfl, h⟩
    ·refine qE [(8, .call (.d t4 y6)), (9, .b true), (19, .call (.d t4 y7)), (21, .b false)] 700 ⟨[(1, .ptr 100 0), (3, .d t4 false), (4, .d t2 x3)], [(100, bx 24 t23 x4)]⟩ (aC (c28 h_y6) (aC hb1 (aC (c29 h_y7) (aC hb3 aN)))) ?_
     show Run Pg 81 _ _ _
     refine qE [] 500 ⟨[(1, .ptr 100 0), (3, .d t4 false), (4, .d t2 (wrapI .i64 (x3 + (1 : Int))))], [(100, bx 24 t23 x4)]⟩ aN ?_
     exact ⟨m, Nat.lt_succ_self m, _, _, rfl, h⟩
   ·refine qE [(8, .call (.d t4 y6)), (9, .b false)] 700 ⟨[(1, .ptr 100 0), (3, .d t4 false), (4, .d t2 x3)], [(100, bx 24 t23 x4)]⟩ (aC (c28 h_y6) (aC hb1 aN)) ?_
    show Run Pg 81 _ _ _
    refine qE [] 500 ⟨[(1, .ptr 100 0), (3, .d t4 false), (4, .d t2 (wrapI .i64 (x3 + (1 : Int))))], [(100, bx 24 t23 x4)]⟩ aN ?_
    exact ⟨m, Nat.lt_succ_self m, _, _, rfl, h⟩
  ·replace h := bif_f h hb
   refine qK ⟨[(3, .d t4 x2)], []⟩ ?_
   refine Run.ex 0 ?_
   obtain rfl := sI h
   exact ⟨rfl, by kernel_rfl⟩
 ·refine qN [(5, .b false)] 400 ⟨[(1, .ptr 100 0), (3, .d t4 x2), (4, .d t2 x3), (43, .d t4 false)], [(100, bx 24 t23 x4)]⟩ (aC hb0 aN) ?_
  refine Run.cd false (fun hb => (by cases hb)) (fun hb => ?_)
  refine qK ⟨[(3, .d t4 x2)], []⟩ ?_
  refine Run.ex 0 ?_
  obtain rfl := sI h
  exact ⟨rfl, by kernel_rfl⟩
def f11_l1_post (x10 : Int × Int × Int × Int × Int × Int × (List (Int × Int × Int × Int × Int)) × Int) : (Bool) → Ex → St → Prop
 | o, x, s => x = .out 0 ∧ s = ⟨[(3, .d t4 o)], []⟩
def f11_l1_b (x10 : Int × Int × Int × Int × Int × Int × (List (Int × Int × Int × Int × Int)) × Int) (again : Bool × Int → Option (Bool)) : Bool × Int → Option (Bool)
 | (x8, x9) =>
 (bif (decide (x9 < (ofN (List.length x10.2.2.2.2.2.2.1)))) then
 (bif x8 then
 gd (0 ≤ x9) <|
 gd (x9 < ((List.length x10.2.2.2.2.2.2.1 : Nat) : Int)) <|
 (F28 (List.getD x10.2.2.2.2.2.2.1 (toN x9) ((0 : Int), (0 : Int), (0 : Int), (0 : Int), (0 : Int))).1 (List.getD x10.2.2.2.2.2.2.1 (toN x9) ((0 : Int), (0 : Int), (0 : Int), (0 : Int), (0 : Int))).2.1 (List.getD x10.2.2.2.2.2.2.1 (toN x9) ((0 : Int), (0 : Int), (0 : Int), (0 : Int), (0 : Int))).2.2.1 (List.getD x10.2.2.2.2.2.2.1 (toN x9) ((0 : Int), (0 : Int), (0 : Int), (0 : Int), (0 : Int))).2.2.2.1).bind fun y12 =>
 (bif y12 then
 (F29 (List.getD x10.2.2.2.2.2.2.1 (toN x9) ((0 : Int), (0 : Int), (0 : Int), (0 : Int), (0 : Int))).2.2.2.2 (max2i (wrapI .i64 ((wrapI .i64 (0 - x10.2.2.2.2.1)) - x10.2.2.2.2.2.1)) (-10000000 : Int))).bind fun y13 =>
 (bif y13 then
 again ((decide ((List.getD x10.2.2.2.2.2.2.1 (toN x9) ((0 : Int), (0 : Int), (0 : Int), (0 : Int), (0 : Int))).2.2.2.2 < x10.2.2.2.2.2.2.2)), (wrapI .i64 (x9 + (1 : Int))))
 else
 again (false, (wrapI .i64 (x9 + (1 : Int)))))
 else
 again (false, (wrapI .i64 (x9 + (1 : Int)))))
 else
 some x8)
 else
 some x8)
def f11_l1 (x10 : Int × Int × Int × Int × Int × Int × (List (Int × Int × Int × Int × Int)) × Int) : Nat → Bool × Int → Option (Bool) := loopF (f11_l1_b x10)
theorem f11_l1_ok (x10 : Int × Int × Int × Int × Int × Int × (List (Int × Int × Int × Int × Int)) × Int) (k : Nat) (x8 : Bool) (x9 : Int) {out : (Bool)} (h : f11_l1 x10 k (x8, x9) = some out) : Run Pg 81 (bk1 (sq2 (sq1 (sq2 (sq2 c_11))))) ⟨[(1, .ptr 100 0), (3, .d t4 x8), (4, .d t2 x9)], [(100, bx 24 t23 x10)]⟩ (f11_l1_post x10 out) := by
 refine Run.loopN (by kernel_rfl) (fun m s => ∃ x8 x9, s = ⟨[(1, .ptr 100 0), (3, .d t4 x8), (4, .d t2 x9)], [(100, bx 24 t23 x10)]⟩ ∧ f11_l1 x10 m (x8, x9) = some out) ?_ k ⟨x8, x9,  rfl, h⟩
 rintro m s ⟨x8, x9,  rfl, h⟩
 cases m with
 | zero => cases h
 | succ m =>
 replace h : f11_l1_b x10 (f11_l1 x10 m) (x8, x9) = some out := h
 unfold f11_l1_b at h
 refine Run.sq ?_
 rcases bif_elim h with ⟨hb0, h⟩ | ⟨hb0, h⟩
 ·refine qN [(5, .b true)] 400 ⟨[(1, .ptr 100 0), (3, .d t4 x8), (4, .d t2 x9), (43, .d t4 x8)], [(100, bx 24 t23 x10)]⟩ (aC hb0 aN) ?_
  refine Run.cd x8 (fun hb => ?_) (fun hb => ?_)
  ·replace h := bif_t h hb
   refine Run.sk ?_
   show Run Pg 81 _ _ _
   refine Run.sq ?_
   refine Run.bl 1 ?_
   obtain ⟨g_0, h⟩ := gd_elim h
   obtain ⟨g_1, h⟩ := gd_elim h
   refine qN [] 600 ⟨[(1, .ptr 100 0), (4, .d t2 x9), (5, .ptr 605 0)], [(100, bx 24 t23 x10), (605, bx 57 t56 (List.getD x10.2.2.2.2.2.2.1 (toN x9) ((0 : Int), (0 : Int), (0 : Int), (0 : Int), (0 : Int))))]⟩ (aC g_0 (aC g_1 aN)) ?_
   obtain ⟨y12, h_y12, h⟩ := bnd_elim h
   rcases bif_elim h with ⟨hb1, h⟩ | ⟨hb1, h⟩
   ·obtain ⟨y13, h_y13, h⟩ := bnd_elim h
    rcases bif_elim h with ⟨hb3, h⟩ | ⟨hb3, h⟩
    ·refine qE [(8, .call (.d t4 y12)), (9, .b true), (19, .call (.d t4 y13)), (21, .b true)] 700 ⟨[(1, .ptr 100 0), (3, .d t4 (decide ((List.getD x10.2.2.2.2.2.2.1 (toN x9) ((0 : Int), (0 : Int), (0 : Int), (0 : Int), (0 : Int))).2.2.2.2 < x10.2.2.2.2.2.2.2))), (4, .d t2 x9)], [(100, bx 24 t23 x10)]⟩ (aC (c28 h_y12) (aC hb1 (aC (c29 h_y13) (aC hb3 aN)))) ?_
     show Run Pg 81 _ _ _
     refine qE [] 500 ⟨[(1, .ptr 100 0), (3, .d t4 (decide ((List.getD x10.2.2.2.2.2.2.1 (toN x9) ((0 : Int), (0 : Int), (0 : Int), (0 : Int), (0 : Int))).2.2.2.2 < x10.2.2.2.2.2.2.2))), (4, .d t2 (wrapI .i64 (x9 + (1 : Int))))], [(100, bx 24 t23 x10)]⟩ aN ?_
     exact ⟨m, Nat.lt_succ_self m, _, _, rfl, h⟩
    ·refine qE [(8, .call (.d t4 y12)), (9, .b true), (19, .call (.d t4 y13)), (21, .b false)] 700 ⟨[(1, .ptr 100 0), (3, .d t4 false), (4, .d t2 x9)], [(100, bx 24 t23 x10)]⟩ (aC (c28 h_y12) (aC hb1 (aC (c29 h_y13) (aC hb3 aN)))) ?_
     show Run Pg 81 _ _ _
     refine qE [] 500 ⟨[(1, .ptr 100 0), (3, .d t4 false), (4, .d t2 (wrapI .i64 (x9 + (1 : Int))))], [(100, bx 24 t23 x10)]⟩ aN ?_
     exact ⟨m, Nat.lt_succ_self m, _, _, rfl, h⟩
   ·refine qE [(8, .call (.d t4 y12)), (9, .b false)] 700 ⟨[(1, .ptr 100 0), (3, .d t4 false), (4, .d t2 x9)], [(100, bx 24 t23 x10)]⟩ (aC (c28 h_y12) (aC hb1 aN)) ?_
    show Run Pg 81 _ _ _
    refine qE [] 500 ⟨[(1, .ptr 100 0), (3, .d t4 false), (4, .d t2 (wrapI .i64 (x9 + (1 : Int))))], [(100, bx 24 t23 x10)]⟩ aN ?_
    exact ⟨m, Nat.lt_succ_self m, _, _, rfl, h⟩
  ·replace h := bif_f h hb
   refine qK ⟨[(3, .d t4 x8)], []⟩ ?_
   refine Run.ex 0 ?_
   obtain rfl := sI h
   exact ⟨rfl, by kernel_rfl⟩
 ·refine qN [(5, .b false)] 400 ⟨[(1, .ptr 100 0), (3, .d t4 x8), (4, .d t2 x9), (43, .d t4 false)], [(100, bx 24 t23 x10)]⟩ (aC hb0 aN) ?_
  refine Run.cd false (fun hb => (by cases hb)) (fun hb => ?_)
  refine qK ⟨[(3, .d t4 x8)], []⟩ ?_
  refine Run.ex 0 ?_
  obtain rfl := sI h
  exact ⟨rfl, by kernel_rfl⟩
def f11_l2_post (x16 : Int × Int × Int × Int × Int × Int × (List (Int × Int × Int × Int × Int)) × Int) : (Bool) → Ex → St → Prop
 | o, x, s => x = .out 0 ∧ s = ⟨[(3, .d t4 o)], []⟩
def f11_l2_b (x16 : Int × Int × Int × Int × Int × Int × (List (Int × Int × Int × Int × Int)) × Int) (again : Bool × Int → Option (Bool)) : Bool × Int → Option (Bool)
 | (x14, x15) =>
 (bif (decide (x15 < (ofN (List.length x16.2.2.2.2.2.2.1)))) then
 (bif x14 then
 gd (0 ≤ x15) <|
 gd (x15 < ((List.length x16.2.2.2.2.2.2.1 : Nat) : Int)) <|
 (F28 (List.getD x16.2.2.2.2.2.2.1 (toN x15) ((0 : Int), (0 : Int), (0 : Int), (0 : Int), (0 : Int))).1 (List.getD x16.2.2.2.2.2.2.1 (toN x15) ((0 : Int), (0 : Int), (0 : Int), (0 : Int), (0 : Int))).2.1 (List.getD x16.2.2.2.2.2.2.1 (toN x15) ((0 : Int), (0 : Int), (0 : Int), (0 : Int), (0 : Int))).2.2.1 (List.getD x16.2.2.2.2.2.2.1 (toN x15) ((0 : Int), (0 : Int), (0 : Int), (0 : Int), (0 : Int))).2.2.2.1).bind fun y18 =>
 (bif y18 then
 (F29 (List.getD x16.2.2.2.2.2.2.1 (toN x15) ((0 : Int), (0 : Int), (0 : Int), (0 : Int), (0 : Int))).2.2.2.2 (max2i (wrapI .i64 ((wrapI .i64 (0 - x16.2.2.2.2.1)) - x16.2.2.2.2.2.1)) (-10000000 : Int))).bind fun y19 =>
 (bif y19 then
 again ((decide ((List.getD x16.2.2.2.2.2.2.1 (toN x15) ((0 : Int), (0 : Int), (0 : Int), (0 : Int), (0 : Int))).2.2.2.2 < x16.2.2.2.2.2.2.2)), (wrapI .i64 (x15 + (1 : Int))))
 else
 again (false, (wrapI .i64 (x15 + (1 : Int)))))
 else
 again (false, (wrapI .i64 (x15 + (1 : Int)))))
 else
 some x14)
 else
 some x14)
def f11_l2 (x16 : Int × Int × Int × Int × Int × Int × (List (Int × Int × Int × Int × Int)) × Int) : Nat → Bool × Int → Option (Bool) := loopF (f11_l2_b x16)
theorem f11_l2_ok (x16 : Int × Int × Int × Int × Int × Int × (List (Int × Int × Int × Int × Int)) × Int) (k : Nat) (x14 : Bool) (x15 : Int) {out : (Bool)} (h : f11_l2 x16 k (x14, x15) = some out) : Run Pg 81 (bk1 (sq2 (sq1 (sq2 (sq2 c_11))))) ⟨[(1, .ptr 100 0), (3, .d t4 x14), (4, .d t2 x15)], [(100, bx 24 t23 x16)]⟩ (f11_l2_post x16 out) := by
 refine Run.loopN (by kernel_rfl) (fun m s => ∃ x14 x15, s = ⟨[(1, .ptr 100 0), (3, .d t4 x14), (4, .d t2 x15)], [(100, bx 24 t23 x16)]⟩ ∧ f11_l2 x16 m (x14, x15) = some out) ?_ k ⟨x14, x15,  rfl, h⟩
 rintro m s ⟨x14, x15,  rfl, h⟩
 cases m with
 | zero => cases h
 | succ m =>
 replace h : f11_l2_b x16 (f11_l2 x16 m) (x14, x15) = some out := h
 unfold f11_l2_b at h
 refine Run.sq ?_
 rcases bif_elim h with ⟨hb0, h⟩ | ⟨hb0, h⟩
 ·refine qN [(5, .b true)] 400 ⟨[(1, .ptr 100 0), (3, .d t4 x14), (4, .d t2 x15), (43, .d t4 x14)], [(100, bx 24 t23 x16)]⟩ (aC hb0 aN) ?_
  refine Run.cd x14 (fun hb => ?_) (fun hb => ?_)
  ·replace h := bif_t h hb
   refine Run.sk ?_
   show Run Pg 81 _ _ _
   refine Run.sq ?_
   refine Run.bl 1 ?_
   obtain ⟨g_0, h⟩ := gd_elim h
   obtain ⟨g_1, h⟩ := gd_elim h
   refine qN [] 600 ⟨[(1, .ptr 100 0), (4, .d t2 x15), (5, .ptr 605 0)], [(100, bx 24 t23 x16), (605, bx 57 t56 (List.getD x16.2.2.2.2.2.2.1 (toN x15) ((0 : Int), (0 : Int), (0 : Int), (0 : Int), (0 : Int))))]⟩ (aC g_0 (aC g_1 aN)) ?_
   obtain ⟨y18, h_y18, h⟩ := bnd_elim h
   rcases bif_elim h with ⟨hb1, h⟩ | ⟨hb1, h⟩
   ·obtain ⟨y19, h_y19, h⟩ := bnd_elim h
    rcases bif_elim h with ⟨hb3, h⟩ | ⟨hb3, h⟩
    ·refine qE [(8, .call (.d t4 y18)), (9, .b true), (19, .call (.d t4 y19)), (21, .b true)] 700 ⟨[(1, .ptr 100 0), (3, .d t4 (decide ((List.getD x16.2.2.2.2.2.2.1 (toN x15) ((0 : Int), (0 : Int), (0 : Int), (0 : Int), (0 : Int))).2.2.2.2 < x16.2.2.2.2.2.2.2))), (4, .d t2 x15)], [(100, bx 24 t23 x16)]⟩ (aC (c28 h_y18) (aC hb1 (aC (c29 h_y19) (aC hb3 aN)))) ?_
     show Run Pg 81 _ _ _
     refine qE [] 500 ⟨[(1, .ptr 100 0), (3, .d t4 (decide ((List.getD x16.2.2.2.2.2.2.1 (toN x15) ((0 : Int), (0 : Int), (0 : Int), (0 : Int), (0 : Int))).2.2.2.2 < x16.2.2.2.2.2.2.2))), (4, .d t2 (wrapI .i64 (x15 + (1 : Int))))], [(100, bx 24 t23 x16)]⟩ aN ?_
     exact ⟨m, Nat.lt_succ_self m, _, _, rfl, h⟩
    ·refine qE [(8, .call (.d t4 y18)), (9, .b true), (19, .call (.d t4 y19)), (21, .b false)] 700 ⟨[(1, .ptr 100 0), (3, .d t4 false), (4, .d t2 x15)], [(100, bx 24 t23 x16)]⟩ (aC (c28 h_y18) (aC hb1 (aC (c29 h_y19) (aC hb3 aN)))) ?_
     show Run Pg 81 _ _ _
     refine qE [] 500 ⟨[(1, .ptr 100 0), (3, .d t4 false), (4, .d t2 (wrapI .i64 (x15 + (1 : Int))))], [(100, bx 24 t23 x16)]⟩ aN ?_
     exact ⟨m, Nat.lt_succ_self m, _, _, rfl, h⟩
   ·refine qE [(8, .call (.d t4 y18)), (9, .b false)] 700 ⟨[(1, .ptr 100 0), (3, .d t4 false), (4, .d t2 x15)], [(100, bx 24 t23 x16)]⟩ (aC (c28 h_y18) (aC hb1 aN)) ?_
    show Run Pg 81 _ _ _
    refine qE [] 500 ⟨[(1, .ptr 100 0), (3, .d t4 false), (4, .d t2 (wrapI .i64 (x15 + (1 : Int))))], [(100, bx 24 t23 x16)]⟩ aN ?_
    exact ⟨m, Nat.lt_succ_self m, _, _, rfl, h⟩
  ·replace h := bif_f h hb
   refine qK ⟨[(3, .d t4 x14)], []⟩ ?_
   refine Run.ex 0 ?_
   obtain rfl := sI h
   exact ⟨rfl, by kernel_rfl⟩
 ·refine qN [(5, .b false)] 400 ⟨[(1, .ptr 100 0), (3, .d t4 x14), (4, .d t2 x15), (43, .d t4 false)], [(100, bx 24 t23 x16)]⟩ (aC hb0 aN) ?_
  refine Run.cd false (fun hb => (by cases hb)) (fun hb => ?_)
  refine qK ⟨[(3, .d t4 x14)], []⟩ ?_
  refine Run.ex 0 ?_
  obtain rfl := sI h
  exact ⟨rfl, by kernel_rfl⟩
def f11_l3_post (x22 : Int × Int × Int × Int × Int × Int × (List (Int × Int × Int × Int × Int)) × Int) : (Bool) → Ex → St → Prop
 | o, x, s => x = .out 0 ∧ s = ⟨[(3, .d t4 o)], []⟩
def f11_l3_b (x22 : Int × Int × Int × Int × Int × Int × (List (Int × Int × Int × Int × Int)) × Int) (again : Bool × Int → Option (Bool)) : Bool × Int → Option (Bool)
 | (x20, x21) =>
 (bif (decide (x21 < (ofN (List.length x22.2.2.2.2.2.2.1)))) then
 (bif x20 then
 gd (0 ≤ x21) <|
 gd (x21 < ((List.length x22.2.2.2.2.2.2.1 : Nat) : Int)) <|
 (F28 (List.getD x22.2.2.2.2.2.2.1 (toN x21) ((0 : Int), (0 : Int), (0 : Int), (0 : Int), (0 : Int))).1 (List.getD x22.2.2.2.2.2.2.1 (toN x21) ((0 : Int), (0 : Int), (0 : Int), (0 : Int), (0 : Int))).2.1 (List.getD x22.2.2.2.2.2.2.1 (toN x21) ((0 : Int), (0 : Int), (0 : Int), (0 : Int), (0 : Int))).2.2.1 (List.getD x22.2.2.2.2.2.2.1 (toN x21) ((0 : Int), (0 : Int), (0 : Int), (0 : Int), (0 : Int))).2.2.2.1).bind fun y24 =>
 (bif y24 then
 (F29 (List.getD x22.2.2.2.2.2.2.1 (toN x21) ((0 : Int), (0 : Int), (0 : Int), (0 : Int), (0 : Int))).2.2.2.2 (max2i (wrapI .i64 ((wrapI .i64 (0 - x22.2.2.2.2.1)) - x22.2.2.2.2.2.1)) (-10000000 : Int))).bind fun y25 =>
 (bif y25 then
 again ((decide ((List.getD x22.2.2.2.2.2.2.1 (toN x21) ((0 : Int), (0 : Int), (0 : Int), (0 : Int), (0 : Int))).2.2.2.2 < x22.2.2.2.2.2.2.2)), (wrapI .i64 (x21 + (1 : Int))))
 else
 again (false, (wrapI .i64 (x21 + (1 : Int)))))
 else
 again (false, (wrapI .i64 (x21 + (1 : Int)))))
 else
 some x20)
 else
 some x20)
def f11_l3 (x22 : Int × Int × Int × Int × Int × Int × (List (Int × Int × Int × Int × Int)) × Int) : Nat → Bool × Int → Option (Bool) := loopF (f11_l3_b x22)
theorem f11_l3_ok (x22 : Int × Int × Int × Int × Int × Int × (List (Int × Int × Int × Int × Int)) × Int) (k : Nat) (x20 : Bool) (x21 : Int) {out : (Bool)} (h : f11_l3 x22 k (x20, x21) = some out) : Run Pg 81 (bk1 (sq2 (sq1 (sq2 (sq2 c_11))))) ⟨[(1, .ptr 100 0), (3, .d t4 x20), (4, .d t2 x21)], [(100, bx 24 t23 x22)]⟩ (f11_l3_post x22 out) := by
 refine Run.loopN (by kernel_rfl) (fun m s => ∃ x20 x21, s = ⟨[(1, .ptr 100 0), (3, .d t4 x20), (4, .d t2 x21)], [(100, bx 24 t23 x22)]⟩ ∧ f11_l3 x22 m (x20, x21) = some out) ?_ k ⟨x20, x21,  rfl, h⟩
 rintro m s ⟨x20, x21,  rfl, h⟩
 cases m with
 | zero => cases h
 | succ m =>
 replace h : f11_l3_b x22 (f11_l3 x22 m) (x20, x21) = some out := h
 unfold f11_l3_b at h
 refine Run.sq ?_
 rcases bif_elim h with ⟨hb0, h⟩ | ⟨hb0, h⟩
 ·refine qN [(5, .b true)] 400 ⟨[(1, .ptr 100 0), (3, .d t4 x20), (4, .d t2 x21), (43, .d t4 x20)], [(100, bx 24 t23 x22)]⟩ (aC hb0 aN) ?_
  refine Run.cd x20 (fun hb => ?_) (fun hb => ?_)
  ·replace h := bif_t h hb
   refine Run.sk ?_
   show Run Pg 81 _ _ _
   refine Run.sq ?_
   refine Run.bl 1 ?_
   obtain ⟨g_0, h⟩ := gd_elim h
   obtain ⟨g_1, h⟩ := gd_elim h
   refine qN [] 600 ⟨[(1, .ptr 100 0), (4, .d t2 x21), (5, .ptr 605 0)], [(100, bx 24 t23 x22), (605, bx 57 t56 (List.getD x22.2.2.2.2.2.2.1 (toN x21) ((0 : Int), (0 : Int), (0 : Int), (0 : Int), (0 : Int))))]⟩ (aC g_0 (aC g_1 aN)) ?_
   obtain ⟨y24, h_y24, h⟩ := bnd_elim h
   rcases bif_elim h with ⟨hb1, h⟩ | ⟨hb1, h⟩
   ·obtain ⟨y25, h_y25, h⟩ := bnd_elim h
    rcases bif_elim h with ⟨hb3, h⟩ | ⟨hb3, h⟩
    ·refine qE [(8, .call (.d t4 y24)), (9, .b true), (19, .call (.d t4 y25)), (21, .b true)] 700 ⟨[(1, .ptr 100 0), (3, .d t4 (decide ((List.getD x22.2.2.2.2.2.2.1 (toN x21) ((0 : Int), (0 : Int), (0 : Int), (0 : Int), (0 : Int))).2.2.2.2 < x22.2.2.2.2.2.2.2))), (4, .d t2 x21)], [(100, bx 24 t23 x22)]⟩ (aC (c28 h_y24) (aC hb1 (aC (c29 h_y25) (aC hb3 aN)))) ?_
     show Run Pg 81 _ _ _
     refine qE [] 500 ⟨[(1, .ptr 100 0), (3, .d t4 (decide ((List.getD x22.2.2.2.2.2.2.1 (toN x21) ((0 : Int), (0 : Int), (0 : Int), (0 : Int), (0 : Int))).2.2.2.2 < x22.2.2.2.2.2.2.2))), (4, .d t2 (wrapI .i64 (x21 + (1 : Int))))], [(100, bx 24 t23 x22)]⟩ aN ?_
     exact ⟨m, Nat.lt_succ_self m, _, _, rfl, h⟩
    ·refine qE [(8, .call (.d t4 y24)), (9, .b true), (19, .call (.d t4 y25)), (21, .b false)] 700 ⟨[(1, .ptr 100 0), (3, .d t4 false), (4, .d t2 x21)], [(100, bx 24 t23 x22)]⟩ (aC (c28 h_y24) (aC hb1 (aC (c29 h_y25) (aC hb3 aN)))) ?_
     show Run Pg 81 _ _ _
     refine qE [] 500 ⟨[(1, .ptr 100 0), (3, .d t4 false), (4, .d t2 (wrapI .i64 (x21 + (1 : Int))))], [(100, bx 24 t23 x22)]⟩ aN ?_
     exact ⟨m, Nat.lt_succ_self m, _, _, rfl, h⟩
   ·refine qE [(8, .call (.d t4 y24)), (9, .b false)] 700 ⟨[(1, .ptr 100 0), (3, .d t4 false), (4, .d t2 x21)], [(100, bx 24 t23 x22)]⟩ (aC (c28 h_y24) (aC hb1 aN)) ?_
    show Run Pg 81 _ _ _
    refine qE [] 500 ⟨[(1, .ptr 100 0), (3, .d t4 false), (4, .d t2 (wrapI .i64 (x21 + (1 : Int))))], [(100, bx 24 t23 x22)]⟩ aN ?_
    exact ⟨m, Nat.lt_succ_self m, _, _, rfl, h⟩
  ·replace h := bif_f h hb
   refine qK ⟨[(3, .d t4 x20)], []⟩ ?_
   refine Run.ex 0 ?_
   obtain rfl := sI h
   exact ⟨rfl, by kernel_rfl⟩
 ·refine qN [(5, .b false)] 400 ⟨[(1, .ptr 100 0), (3, .d t4 x20), (4, .d t2 x21), (43, .d t4 false)], [(100, bx 24 t23 x22)]⟩ (aC hb0 aN) ?_
  refine Run.cd false (fun hb => (by cases hb)) (fun hb => ?_)
  refine qK ⟨[(3, .d t4 x20)], []⟩ ?_
  refine Run.ex 0 ?_
  obtain rfl := sI h
  exact ⟨rfl, by kernel_rfl⟩
def f11_l4_post (x28 : Int × Int × Int × Int × Int × Int × (List (Int × Int × Int × Int × Int)) × Int) : (Bool) → Ex → St → Prop
 | o, x, s => x = .out 0 ∧ s = ⟨[(3, .d t4 o)], []⟩
def f11_l4_b (x28 : Int × Int × Int × Int × Int × Int × (List (Int × Int × Int × Int × Int)) × Int) (again : Bool × Int → Option (Bool)) : Bool × Int → Option (Bool)
 | (x26, x27) =>
 (bif (decide (x27 < (ofN (List.length x28.2.2.2.2.2.2.1)))) then
 (bif x26 then
 gd (0 ≤ x27) <|
 gd (x27 < ((List.length x28.2.2.2.2.2.2.1 : Nat) : Int)) <|
 (F28 (List.getD x28.2.2.2.2.2.2.1 (toN x27) ((0 : Int), (0 : Int), (0 : Int), (0 : Int), (0 : Int))).1 (List.getD x28.2.2.2.2.2.2.1 (toN x27) ((0 : Int), (0 : Int), (0 : Int), (0 : Int), (0 : Int))).2.1 (List.getD x28.2.2.2.2.2.2.1 (toN x27) ((0 : Int), (0 : Int), (0 : Int), (0 : Int), (0 : Int))).2.2.1 (List.getD x28.2.2.2.2.2.2.1 (toN x27) ((0 : Int), (0 : Int), (0 : Int), (0 : Int), (0 : Int))).2.2.2.1).bind fun y30 =>
 (bif y30 then
 (F29 (List.getD x28.2.2.2.2.2.2.1 (toN x27) ((0 : Int), (0 : Int), (0 : Int), (0 : Int), (0 : Int))).2.2.2.2 (max2i (wrapI .i64 ((wrapI .i64 (0 - x28.2.2.2.2.1)) - x28.2.2.2.2.2.1)) (-10000000 : Int))).bind fun y31 =>
 (bif y31 then
 again ((decide ((List.getD x28.2.2.2.2.2.2.1 (toN x27) ((0 : Int), (0 : Int), (0 : Int), (0 : Int), (0 : Int))).2.2.2.2 < x28.2.2.2.2.2.2.2)), (wrapI .i64 (x27 + (1 : Int))))
 else
 again (false, (wrapI .i64 (x27 + (1 : Int)))))
 else
 again (false, (wrapI .i64 (x27 + (1 : Int)))))
 else
 some x26)
 else
 some x26)
def f11_l4 (x28 : Int × Int × Int × Int × Int × Int × (List (Int × Int × Int × Int × Int)) × Int) : Nat → Bool × Int → Option (Bool) := loopF (f11_l4_b x28)
theorem f11_l4_ok (x28 : Int × Int × Int × Int × Int × Int × (List (Int × Int × Int × Int × Int)) × Int) (k : Nat) (x26 : Bool) (x27 : Int) {out : (Bool)} (h : f11_l4 x28 k (x26, x27) = some out) : Run Pg 81 (bk1 (sq2 (sq1 (sq2 (sq2 c_11))))) ⟨[(1, .ptr 100 0), (3, .d t4 x26), (4, .d t2 x27)], [(100, bx 24 t23 x28)]⟩ (f11_l4_post x28 out) := by
 refine Run.loopN (by kernel_rfl) (fun m s => ∃ x26 x27, s = ⟨[(1, .ptr 100 0), (3, .d t4 x26), (4, .d t2 x27)], [(100, bx 24 t23 x28)]⟩ ∧ f11_l4 x28 m (x26, x27) = some out) ?_ k ⟨x26, x27,  rfl, h⟩
 rintro m s ⟨x26, x27,  rfl, h⟩
 cases m with
 | zero => cases h
 | succ m =>
 replace h : f11_l4_b x28 (f11_l4 x28 m) (x26, x27) = some out := h
 unfold f11_l4_b at h
 refine Run.sq ?_
 rcases bif_elim h with ⟨hb0, h⟩ | ⟨hb0, h⟩
 ·refine qN [(5, .b true)] 400 ⟨[(1, .ptr 100 0), (3, .d t4 x26), (4, .d t2 x27), (43, .d t4 x26)], [(100, bx 24 t23 x28)]⟩ (aC hb0 aN) ?_
  refine Run.cd x26 (fun hb => ?_) (fun hb => ?_)
  ·replace h := bif_t h hb
   refine Run.sk ?_
   show Run Pg 81 _ _ _
   refine Run.sq ?_
   refine Run.bl 1 ?_
   obtain ⟨g_0, h⟩ := gd_elim h
   obtain ⟨g_1, h⟩ := gd_elim h
   refine qN [] 600 ⟨[(1, .ptr 100 0), (4, .d t2 x27), (5, .ptr 605 0)], [(100, bx 24 t23 x28), (605, bx 57 t56 (List.getD x28.2.2.2.2.2.2.1 (toN x27) ((0 : Int), (0 : Int), (0 : Int), (0 : Int), (0 : Int))))]⟩ (aC g_0 (aC g_1 aN)) ?_
   obtain ⟨y30, h_y30, h⟩ := bnd_elim h
   rcases bif_elim h with ⟨hb1, h⟩ | ⟨hb1, h⟩
   ·obtain ⟨y31, h_y31, h⟩ := bnd_elim h
    rcases bif_elim h with ⟨hb3, h⟩ | ⟨hb3, h⟩
    ·refine qE [(8, .call (.d t4 y30)), (9, .b true), (19, .call (.d t4 y31)), (21, .b true)] 700 ⟨[(1, .ptr 100 0), (3, .d t4 (decide ((List.getD x28.2.2.2.2.2.2.1 (toN x27) ((0 : Int), (0 : Int), (0 : Int), (0 : Int), (0 : Int))).2.2.2.2 < x28.2.2.2.2.2.2.2))), (4, .d t2 x27)], [(100, bx 24 t23 x28)]⟩ (aC (c28 h_y30) (aC hb1 (aC (c29 h_y31) (aC hb3 aN)))) ?_
     show Run Pg 81 _ _ _
     refine qE [] 500 ⟨[(1, .ptr 100 0), (3, .d t4 (decide ((List.getD x28.2.2.2.2.2.2.1 (toN x27) ((0 : Int), (0 : Int), (0 : Int), (0 : Int), (0 : Int))).2.2.2.2 < x28.2.2.2.2.2.2.2))), (4, .d t2 (wrapI .i64 (x27 + (1 : Int))))], [(100, bx 24 t23 x28)]⟩ aN ?_
     exact ⟨m, Nat.lt_succ_self m, _, _, rfl, h⟩
    ·refine qE [(8, .call (.d t4 y30)), (9, .b true), (19, .call (.d t4 y31)), (21, .b false)] 700 ⟨[(1, .ptr 100 0), (3, .d t4 false), (4, .d t2 x27)], [(100, bx 24 t23 x28)]⟩ (aC (c28 h_y30) (aC hb1 (aC (c29 h_y31) (aC hb3 aN)))) ?_
     show Run Pg 81 _ _ _
     refine qE [] 500 ⟨[(1, .ptr 100 0), (3, .d t4 false), (4, .d t2 (wrapI .i64 (x27 + (1 : Int))))], [(100, bx 24 t23 x28)]⟩ aN ?_
     exact ⟨m, Nat.lt_succ_self m, _, _, rfl, h⟩
   ·refine qE [(8, .call (.d t4 y30)), (9, .b false)] 700 ⟨[(1, .ptr 100 0), (3, .d t4 false), (4, .d t2 x27)], [(100, bx 24 t23 x28)]⟩ (aC (c28 h_y30) (aC hb1 aN)) ?_
    show Run Pg 81 _ _ _
    refine qE [] 500 ⟨[(1, .ptr 100 0), (3, .d t4 false), (4, .d t2 (wrapI .i64 (x27 + (1 : Int))))], [(100, bx 24 t23 x28)]⟩ aN ?_
    exact ⟨m, Nat.lt_succ_self m, _, _, rfl, h⟩
  ·replace h := bif_f h hb
   refine qK ⟨[(3, .d t4 x26)], []⟩ ?_
   refine Run.ex 0 ?_
   obtain rfl := sI h
   exact ⟨rfl, by kernel_rfl⟩
 ·refine qN [(5, .b false)] 400 ⟨[(1, .ptr 100 0), (3, .d t4 x26), (4, .d t2 x27), (43, .d t4 false)], [(100, bx 24 t23 x28)]⟩ (aC hb0 aN) ?_
  refine Run.cd false (fun hb => (by cases hb)) (fun hb => ?_)
  refine qK ⟨[(3, .d t4 x26)], []⟩ ?_
  refine Run.ex 0 ?_
  obtain rfl := sI h
  exact ⟨rfl, by kernel_rfl⟩
def F11 (a0 : Int × Int × Int × Int × Int × Int × (List (Int × Int × Int × Int × Int)) × Int) : Option (Int) :=
 (F28 a0.1 a0.2.1 a0.2.2.1 a0.2.2.2.1).bind fun y1 =>
 (bif y1 then
 (F29 a0.2.2.2.2.1 (1 : Int)).bind fun y2 =>
 (bif y2 then
 (F29 a0.2.2.2.2.2.1 (0 : Int)).bind fun y3 =>
 (bif y3 then
 (bif (decide ((ofN (List.length a0.2.2.2.2.2.2.1)) ≤ (50 : Int))) then
 (F29 a0.2.2.2.2.2.2.2 (1 : Int)).bind fun y4 =>
 ((f11_l0 a0 (2 + List.length a0.2.2.2.2.2.2.1) (y4, (0 : Int))).bind fun o7 =>
 (bif (!o7) then
 some (1 : Int)
 else
 some (0 : Int)))
 else
 ((f11_l1 a0 (2 + List.length a0.2.2.2.2.2.2.1) (false, (0 : Int))).bind fun o13 =>
 (bif (!o13) then
 some (1 : Int)
 else
 some (0 : Int))))
 else
 ((f11_l2 a0 (2 + List.length a0.2.2.2.2.2.2.1) (false, (0 : Int))).bind fun o19 =>
 (bif (!o19) then
 some (1 : Int)
 else
 some (0 : Int))))
 else
 ((f11_l3 a0 (2 + List.length a0.2.2.2.2.2.2.1) (false, (0 : Int))).bind fun o25 =>
 (bif (!o25) then
 some (1 : Int)
 else
 some (0 : Int))))
 else
 ((f11_l4 a0 (2 + List.length a0.2.2.2.2.2.2.1) (false, (0 : Int))).bind fun o31 =>
 (bif (!o31) then
 some (1 : Int)
 else
 some (0 : Int))))
theorem c11 {a0 : Int × Int × Int × Int × Int × Int × (List (Int × Int × Int × Int × Int)) × Int} {r : Int} (h : F11 a0 = some r) : CallPure Pg 11 [(.d t23 a0)] (.d t2 r) := by
 refine qC c_11 81 [.tmp 2] [26] Go.Proofs.Tryz.func11 ?_
 show Run Pg 81 c_11 ⟨[(0, .d t23 a0)], []⟩ (fin11 r)
 unfold F11 at h
 refine qN [] 100 ⟨[(1, .ptr 100 0)], [(100, bx 24 t23 a0)]⟩ aN ?_
 obtain ⟨y1, h_y1, h⟩ := bnd_elim h
 rcases bif_elim h with ⟨hb1, h⟩ | ⟨hb1, h⟩
 ·obtain ⟨y2, h_y2, h⟩ := bnd_elim h
  rcases bif_elim h with ⟨hb3, h⟩ | ⟨hb3, h⟩
  ·obtain ⟨y3, h_y3, h⟩ := bnd_elim h
   rcases bif_elim h with ⟨hb5, h⟩ | ⟨hb5, h⟩
   ·rcases bif_elim h with ⟨hb6, h⟩ | ⟨hb6, h⟩
    ·obtain ⟨y4, h_y4, h⟩ := bnd_elim h
     refine qN [(8, .call (.d t4 y1)), (9, .b true), (12, .call (.d t4 y2)), (14, .b true), (17, .call (.d t4 y3)), (19, .b true), (25, .b true), (28, .call (.d t4 y4))] 200 ⟨[(1, .ptr 100 0), (3, .d t4 y4)], [(100, bx 24 t23 a0)]⟩ (aC (c28 h_y1) (aC hb1 (aC (c29 h_y2) (aC hb3 (aC (c29 h_y3) (aC hb5 (aC hb6 (aC (c29 h_y4) aN)))))))) ?_
     refine Run.sq ?_
     refine qN [] 300 ⟨[(1, .ptr 100 0), (3, .d t4 y4), (4, .d t2 (0 : Int))], [(100, bx 24 t23 a0)]⟩ aN ?_
     refine Run.bl 0 ?_
     obtain ⟨o7, h_o7, h⟩ := bnd_elim h
     refine Run.mono (f11_l0_ok a0 _ y4 (0 : Int) h_o7) ?_
     rintro _ _ ⟨rfl, rfl⟩
     show Run Pg 81 _ _ _
     refine Run.sq ?_
     refine qN [] 800 ⟨[(80, .d t4 (!o7))], []⟩ aN ?_
     refine Run.cd (!o7) (fun hb => ?_) (fun hb => ?_)
     ·replace h := bif_t h hb
      refine qN [] 900 ⟨[(2, .d t2 (1 : Int))], []⟩ aN ?_
      refine Run.rt ?_
      obtain rfl := sI h
      exact qR [(.d t2 (1 : Int))]
     ·replace h := bif_f h hb
      refine Run.sk ?_
      show Run Pg 81 _ _ _
      refine qN [] 1000 ⟨[(2, .d t2 (0 : Int))], []⟩ aN ?_
      refine Run.rt ?_
      obtain rfl := sI h
      exact qR [(.d t2 (0 : Int))]
    ·refine qN [(8, .call (.d t4 y1)), (9, .b true), (12, .call (.d t4 y2)), (14, .b true), (17, .call (.d t4 y3)), (19, .b true), (25, .b false)] 200 ⟨[(1, .ptr 100 0), (3, .d t4 false)], [(100, bx 24 t23 a0)]⟩ (aC (c28 h_y1) (aC hb1 (aC (c29 h_y2) (aC hb3 (aC (c29 h_y3) (aC hb5 (aC hb6 aN))))))) ?_
     refine Run.sq ?_
     refine qN [] 300 ⟨[(1, .ptr 100 0), (3, .d t4 false), (4, .d t2 (0 : Int))], [(100, bx 24 t23 a0)]⟩ aN ?_
     refine Run.bl 0 ?_
     obtain ⟨o13, h_o13, h⟩ := bnd_elim h
     refine Run.mono (f11_l1_ok a0 _ false (0 : Int) h_o13) ?_
     rintro _ _ ⟨rfl, rfl⟩
     show Run Pg 81 _ _ _
     refine Run.sq ?_
     refine qN [] 800 ⟨[(80, .d t4 (!o13))], []⟩ aN ?_
     refine Run.cd (!o13) (fun hb => ?_) (fun hb => ?_)
     ·replace h := bif_t h hb
      refine qN [] 900 ⟨[(2, .d t2 (1 : Int))], []⟩ aN ?_
      refine Run.rt ?_
      obtain rfl := sI h
      exact qR [(.d t2 (1 : Int))]
     ·replace h := bif_f h hb
      refine Run.sk ?_
      show Run Pg 81 _ _ _
      refine qN [] 1000 ⟨[(2, .d t2 (0 : Int))], []⟩ aN ?_
      refine Run.rt ?_
      obtain rfl := sI h
      exact qR [(.d t2 (0 : Int))]
   ·refine qN [(8, .call (.d t4 y1)), (9, .b true), (12, .call (.d t4 y2)), (14, .b true), (17, .call (.d t4 y3)), (19, .b false)] 200 ⟨[(1, .ptr 100 0), (3, .d t4 false)], [(100, bx 24 t23 a0)]⟩ (aC (c28 h_y1) (aC hb1 (aC (c29 h_y2) (aC hb3 (aC (c29 h_y3) (aC hb5 aN)))))) ?_
    refine Run.sq ?_
    refine qN [] 300 ⟨[(1, .ptr 100 0), (3, .d t4 false), (4, .d t2 (0 : Int))], [(100, bx 24 t23 a0)]⟩ aN ?_
    refine Run.bl 0 ?_
    obtain ⟨o19, h_o19, h⟩ := bnd_elim h
    refine Run.mono (f11_l2_ok a0 _ false (0 : Int) h_o19) ?_
    rintro _ _ ⟨rfl, rfl⟩
    show Run Pg 81 _ _ _
    refine Run.sq ?_
    refine qN [] 800 ⟨[(80, .d t4 (!o19))], []⟩ aN ?_
    refine Run.cd (!o19) (fun hb => ?_) (fun hb => ?_)
    ·replace h := bif_t h hb
     refine qN [] 900 ⟨[(2, .d t2 (1 : Int))], []⟩ aN ?_
     refine Run.rt ?_
     obtain rfl := sI h
     exact qR [(.d t2 (1 : Int))]
    ·replace h := bif_f h hb
     refine Run.sk ?_
     show Run Pg 81 _ _ _
     refine qN [] 1000 ⟨[(2, .d t2 (0 : Int))], []⟩ aN ?_
     refine Run.rt ?_
     obtain rfl := sI h
     exact qR [(.d t2 (0 : Int))]
  ·refine qN [(8, .call (.d t4 y1)), (9, .b true), (12, .call (.d t4 y2)), (14, .b false)] 200 ⟨[(1, .ptr 100 0), (3, .d t4 false)], [(100, bx 24 t23 a0)]⟩ (aC (c28 h_y1) (aC hb1 (aC (c29 h_y2) (aC hb3 aN)))) ?_
   refine Run.sq ?_
   refine qN [] 300 ⟨[(1, .ptr 100 0), (3, .d t4 false), (4, .d t2 (0 : Int))], [(100, bx 24 t23 a0)]⟩ aN ?_
   refine Run.bl 0 ?_
   obtain ⟨o25, h_o25, h⟩ := bnd_elim h
   refine Run.mono (f11_l3_ok a0 _ false (0 : Int) h_o25) ?_
   rintro _ _ ⟨rfl, rfl⟩
   show Run Pg 81 _ _ _
   refine Run.sq ?_
   refine qN [] 800 ⟨[(80, .d t4 (!o25))], []⟩ aN ?_
   refine Run.cd (!o25) (fun hb => ?_) (fun hb => ?_)
   ·replace h := bif_t h hb
    refine qN [] 900 ⟨[(2, .d t2 (1 : Int))], []⟩ aN ?_
    refine Run.rt ?_
    obtain rfl := sI h
    exact qR [(.d t2 (1 : Int))]
   ·replace h := bif_f h hb
    refine Run.sk ?_
    show Run Pg 81 _ _ _
    refine qN [] 1000 ⟨[(2, .d t2 (0 : Int))], []⟩ aN ?_
    refine Run.rt ?_
    obtain rfl := sI h
    exact qR [(.d t2 (0 : Int))]
 ·refine qN [(8, .call (.d t4 y1)), (9, .b false)] 200 ⟨[(1, .ptr 100 0), (3, .d t4 false)], [(100, bx 24 t23 a0)]⟩ (aC (c28 h_y1) (aC hb1 aN)) ?_
  refine Run.sq ?_
  refine qN [] 300 ⟨[(1, .ptr 100 0), (3, .d t4 false), (4, .d t2 (0 : Int))], [(100, bx 24 t23 a0)]⟩ aN ?_
  refine Run.bl 0 ?_
  obtain ⟨o31, h_o31, h⟩ := bnd_elim h
  refine Run.mono (f11_l4_ok a0 _ false (0 : Int) h_o31) ?_
  rintro _ _ ⟨rfl, rfl⟩
  show Run Pg 81 _ _ _
  refine Run.sq ?_
  refine qN [] 800 ⟨[(80, .d t4 (!o31))], []⟩ aN ?_
  refine Run.cd (!o31) (fun hb => ?_) (fun hb => ?_)
  ·replace h := bif_t h hb
   refine qN [] 900 ⟨[(2, .d t2 (1 : Int))], []⟩ aN ?_
   refine Run.rt ?_
   obtain rfl := sI h
   exact qR [(.d t2 (1 : Int))]
  ·replace h := bif_f h hb
   refine Run.sk ?_
   show Run Pg 81 _ _ _
   refine qN [] 1000 ⟨[(2, .d t2 (0 : Int))], []⟩ aN ?_
   refine Run.rt ?_
   obtain rfl := sI h
   exact qR [(.d t2 (0 : Int))]

/-! ## f15 -/
noncomputable def c_15 : Code := body0 Go.Proofs.Tryz.f15
def fin15 (r : Bool) : Ex → St → Prop := endK X0 [.tmp 2] [4] (.d t4 r)
def F15 (a0 : Int × Int × Int × Int × Int × Int × (List (Int × Int × Int × Int × Int)) × Int) : Option (Bool) :=
 (bif (decide ((ofN (List.length a0.2.2.2.2.2.2.1)) ≤ (4 : Int))) then
 (F11 a0).bind fun y1 =>
 some (y1 == (0 : Int))
 else
 some false)
theorem c15 {a0 : Int × Int × Int × Int × Int × Int × (List (Int × Int × Int × Int × Int)) × Int} {r : Bool} (h : F15 a0 = some r) : CallPure Pg 15 [(.d t23 a0)] (.d t4 r) := by
 refine qC c_15 12 [.tmp 2] [4] Go.Proofs.Tryz.func15 ?_
 show Run Pg 12 c_15 ⟨[(0, .d t23 a0)], []⟩ (fin15 r)
 unfold F15 at h
 refine qN [] 100 ⟨[(1, .ptr 100 0)], [(100, bx 24 t23 a0)]⟩ aN ?_
 rcases bif_elim h with ⟨hb0, h⟩ | ⟨hb0, h⟩
 ·obtain ⟨y1, h_y1, h⟩ := bnd_elim h
  refine qN [(4, .b true), (6, .call (.d t2 y1))] 200 ⟨[(2, .d t4 (y1 == (0 : Int)))], []⟩ (aC hb0 (aC (c11 h_y1) aN)) ?_
  refine Run.rt ?_
  obtain rfl := sI h
  exact qR [(.d t4 (y1 == (0 : Int)))]
 ·refine qN [(4, .b false)] 200 ⟨[(2, .d t4 false)], []⟩ (aC hb0 aN) ?_
  refine Run.rt ?_
  obtain rfl := sI h
  exact qR [(.d t4 false)]

/-! ## f49 -/
noncomputable def c_49 : Code := body0 Go.Proofs.Tryz.f49
def fin49 (r : Bool) : Ex → St → Prop := endK X0 [.tmp 4] [4] (.d t4 r)
def F49 (a0 : Int × Int × Int × Int × Int) (a1 : Int × Int) : Option (Bool) :=
 (bif (decide (a0.1 ≤ a1.1)) then
 (bif (decide (a1.1 ≤ a0.2.2.1)) then
 (bif (decide (a0.2.1 ≤ a1.2)) then
 some (decide (a1.2 ≤ a0.2.2.2.1))
 else
 some false)
 else
 some false)
 else
 some false)
theorem c49 {a0 : Int × Int × Int × Int × Int} {a1 : Int × Int} {r : Bool} (h : F49 a0 a1 = some r) : CallPure Pg 49 [(.d t56 a0), (.d t31 a1)] (.d t4 r) := by
 refine qC c_49 31 [.tmp 4] [4] Go.Proofs.Tryz.func49 ?_
 show Run Pg 31 c_49 ⟨[(0, .d t56 a0), (1, .d t31 a1)], []⟩ (fin49 r)
 unfold F49 at h
 refine qN [] 100 ⟨[(2, .ptr 100 0), (3, .ptr 101 0)], [(100, bx 57 t56 a0), (101, bx 32 t31 a1)]⟩ aN ?_
 rcases bif_elim h with ⟨hb0, h⟩ | ⟨hb0, h⟩
 ·rcases bif_elim h with ⟨hb1, h⟩ | ⟨hb1, h⟩
  ·rcases bif_elim h with ⟨hb2, h⟩ | ⟨hb2, h⟩
   ·refine qN [(5, .b true), (12, .b true), (19, .b true)] 200 ⟨[(4, .d t4 (decide (a1.2 ≤ a0.2.2.2.1)))], []⟩ (aC hb0 (aC hb1 (aC hb2 aN))) ?_
    refine Run.rt ?_
    obtain rfl := sI h
    exact qR [(.d t4 (decide (a1.2 ≤ a0.2.2.2.1)))]
   ·refine qN [(5, .b true), (12, .b true), (19, .b false)] 200 ⟨[(4, .d t4 false)], []⟩ (aC hb0 (aC hb1 (aC hb2 aN))) ?_
    refine Run.rt ?_
    obtain rfl := sI h
    exact qR [(.d t4 false)]
  ·refine qN [(5, .b true), (12, .b false)] 200 ⟨[(4, .d t4 false)], []⟩ (aC hb0 (aC hb1 aN)) ?_
   refine Run.rt ?_
   obtain rfl := sI h
   exact qR [(.d t4 false)]
 ·refine qN [(5, .b false)] 200 ⟨[(4, .d t4 false)], []⟩ (aC hb0 aN) ?_
  refine Run.rt ?_
  obtain rfl := sI h
  exact qR [(.d t4 false)]

/-! ## f80 -/
noncomputable def c_80 : Code := body0 Go.Proofs.Tryz.f80
def fin80 (r : (List Int)) : Ex → St → Prop := endK X0 [.tmp 2] [66] (.d t66 r)
def f80_l0_post  : ((List Int)) → Ex → St → Prop
 | o, x, s => x = .out 0 ∧ s = ⟨[(3, .vec 90003 t158)], [(90003, .vec 158 t158 o)]⟩
def f80_l0_b  (again : Int × (List Int) → Option ((List Int))) : Int × (List Int) → Option ((List Int))
 | (x1, x2) =>
 (bif (decide ((0 : Int) < x1)) then
 gd (List.length (x2 ++ ([(wrapI .u32 (Int.tmod x1 (1000000000 : Int)))] : List Int)) ≤ 1073741824) <|
 again ((wrapI .u64 (Int.tdiv x1 (1000000000 : Int))), (x2 ++ ([(wrapI .u32 (Int.tmod x1 (1000000000 : Int)))] : List Int)))
 else
 some x2)
def f80_l0  : Nat → Int × (List Int) → Option ((List Int)) := loopF (f80_l0_b )
theorem f80_l0_ok  (k : Nat) (x1 : Int) (x2 : List Int) {out : ((List Int))} (h : f80_l0  k (x1, x2) = some out) : Run Pg 15 (bk1 (sq1 (sq2 (sq2 c_80)))) ⟨[(0, .d t12 x1), (3, .vec 90003 t158)], [(90003, .vec 158 t158 x2)]⟩ (f80_l0_post  out) := by
 refine Run.loopN (by kernel_rfl) (fun m s => ∃ x1 x2, s = ⟨[(0, .d t12 x1), (3, .vec 90003 t158)], [(90003, .vec 158 t158 x2)]⟩ ∧ f80_l0  m (x1, x2) = some out) ?_ k ⟨x1, x2,  rfl, h⟩
 rintro m s ⟨x1, x2,  rfl, h⟩
 cases m with
 | zero => cases h
 | succ m =>
 replace h : f80_l0_b  (f80_l0  m) (x1, x2) = some out := h
 unfold f80_l0_b at h
 refine Run.sq ?_
 refine qN [] 300 ⟨[(0, .d t12 x1), (3, .vec 90003 t158), (5, .d t4 (decide ((0 : Int) < x1)))], [(90003, .vec 158 t158 x2)]⟩ aN ?_
 refine Run.cd (decide ((0 : Int) < x1)) (fun hb => ?_) (fun hb => ?_)
 ·replace h := bif_t h hb
  refine Run.sk ?_
  show Run Pg 15 _ _ _
  refine Run.bl 1 ?_
  obtain ⟨g_1, h⟩ := gd_elim h
  refine qN [] 400 ⟨[(0, .d t12 x1), (3, .vec 90003 t158)], [(90003, .vec 158 t158 (x2 ++ ([(wrapI .u32 (Int.tmod x1 (1000000000 : Int)))] : List Int)))]⟩ (aC (show ((1000000000 : Int) ≠ 0) from (by decide)) (aC g_1 aN)) ?_
  refine qE [] 500 ⟨[(0, .d t12 (wrapI .u64 (Int.tdiv x1 (1000000000 : Int)))), (3, .vec 90003 t158)], [(90003, .vec 158 t158 (x2 ++ ([(wrapI .u32 (Int.tmod x1 (1000000000 : Int)))] : List Int)))]⟩ (aC (show ((1000000000 : Int) ≠ 0) from (by decide)) aN) ?_
  exact ⟨m, Nat.lt_succ_self m, _, _, rfl, h⟩
 ·replace h := bif_f h hb
  refine qK ⟨[(3, .vec 90003 t158)], [(90003, .vec 158 t158 x2)]⟩ ?_
  refine Run.ex 0 ?_
  obtain rfl := sI h
  exact ⟨rfl, by kernel_rfl⟩
def F80 (a0 : Int) : Option ((List Int)) :=
 ((f80_l0  (6) (a0, ([] : List Int))).bind fun o3 =>
 some o3)
theorem c80 {a0 : Int} {r : (List Int)} (h : F80 a0 = some r) : CallPure Pg 80 [(.d t12 a0)] (.d t66 r) := by
 refine qC c_80 15 [.tmp 2] [66] Go.Proofs.Tryz.func80 ?_
 show Run Pg 15 c_80 ⟨[(0, .d t12 a0)], []⟩ (fin80 r)
 unfold F80 at h
 refine qN [] 100 ⟨[(0, .d t12 a0)], []⟩ aN ?_
 refine qN [] 200 ⟨[(0, .d t12 a0), (3, .nil)], []⟩ aN ?_
 refine Run.sq ?_
 refine Run.bl 0 ?_
 refine Run.name (s' := ⟨[(3, .vec 90003 t158), (0, .d t12 a0), (3, .nil)], [(90003, .vec 158 t158 [])]⟩) 3 90003 158 t158 (by kernel_rfl) ?_
 refine qK ⟨[(0, .d t12 a0), (3, .vec 90003 t158)], [(90003, .vec 158 t158 ([] : List Int))]⟩ ?_
 obtain ⟨o3, h_o3, h⟩ := bnd_elim h
 refine Run.mono (f80_l0_ok  _ a0 ([] : List Int) h_o3) ?_
 rintro _ _ ⟨rfl, rfl⟩
 show Run Pg 15 _ _ _
 refine qN [] 600 ⟨[(2, .vec 90003 t158)], [(90003, .vec 158 t158 o3)]⟩ aN ?_
 refine Run.freeze (s' := ⟨[(2, .d t66 o3)], []⟩) 90003 (by kernel_rfl) ?_
 refine Run.rt ?_
 obtain rfl := sI h
 exact qR [(.d t66 o3)]

/-! ## f120 -/
noncomputable def c_120 : Code := body0 Go.Proofs.Tryz.f120
def fin120 (r : (List Int)) : Ex → St → Prop := endK X0 [.tmp 2] [66] (.d t66 r)
def f120_l0_post  : ((List Int)) → Ex → St → Prop
 | o, x, s => x = .out 0 ∧ s = ⟨[(0, .d t66 o)], []⟩
def f120_l0_b  (again : (List Int) → Option ((List Int))) : (List Int) → Option ((List Int))
 | x1 =>
 (bif (decide ((0 : Int) < (ofN (List.length x1)))) then
 gd (0 ≤ (wrapI .i64 ((ofN (List.length x1)) - (1 : Int)))) <|
 gd ((wrapI .i64 ((ofN (List.length x1)) - (1 : Int))) < ((List.length x1 : Nat) : Int)) <|
 (bif ((List.getD x1 (toN (wrapI .i64 ((ofN (List.length x1)) - (1 : Int)))) (0 : Int)) == (0 : Int)) then
 gd (0 ≤ (wrapI .i64 ((ofN (List.length x1)) - (1 : Int)))) <|
 gd ((wrapI .i64 ((ofN (List.length x1)) - (1 : Int))) ≤ ((List.length x1 : Nat) : Int)) <|
 again (List.take (Int.toNat (wrapI .i64 ((ofN (List.length x1)) - (1 : Int)))) x1)
 else
 some x1)
 else
 some x1)
def f120_l0  : Nat → (List Int) → Option ((List Int)) := loopF (f120_l0_b )
theorem f120_l0_ok  (k : Nat) (x1 : List Int) {out : ((List Int))} (h : f120_l0  k x1 = some out) : Run Pg 21 (bk1 (sq1 (sq2 c_120))) ⟨[(0, .d t66 x1)], []⟩ (f120_l0_post  out) := by
 refine Run.loopN (by kernel_rfl) (fun m s => ∃ x1, s = ⟨[(0, .d t66 x1)], []⟩ ∧ f120_l0  m x1 = some out) ?_ k ⟨x1,  rfl, h⟩
 rintro m s ⟨x1,  rfl, h⟩
 cases m with
 | zero => cases h
 | succ m =>
 replace h : f120_l0_b  (f120_l0  m) x1 = some out := h
 unfold f120_l0_b at h
 refine Run.sq ?_
 rcases bif_elim h with ⟨hb0, h⟩ | ⟨hb0, h⟩
 ·obtain ⟨g_1, h⟩ := gd_elim h
  obtain ⟨g_2, h⟩ := gd_elim h
  refine qN [(3, .b true)] 200 ⟨[(0, .d t66 x1), (14, .d t4 ((List.getD x1 (toN (wrapI .i64 ((ofN (List.length x1)) - (1 : Int)))) (0 : Int)) == (0 : Int)))], []⟩ (aC hb0 (aC g_1 (aC g_2 aN))) ?_
  refine Run.cd ((List.getD x1 (toN (wrapI .i64 ((ofN (List.length x1)) - (1 : Int)))) (0 : Int)) == (0 : Int)) (fun hb => ?_) (fun hb => ?_)
  ·replace h := bif_t h hb
   refine Run.sk ?_
   show Run Pg 21 _ _ _
   refine Run.bl 1 ?_
   obtain ⟨g_0, h⟩ := gd_elim h
   obtain ⟨g_1, h⟩ := gd_elim h
   refine qE [] 300 ⟨[(0, .d t66 (List.take (Int.toNat (wrapI .i64 ((ofN (List.length x1)) - (1 : Int)))) x1))], []⟩ (aC g_0 (aC g_1 aN)) ?_
   exact ⟨m, Nat.lt_succ_self m, _, rfl, h⟩
  ·replace h := bif_f h hb
   refine qK ⟨[(0, .d t66 x1)], []⟩ ?_
   refine Run.ex 0 ?_
   obtain rfl := sI h
   exact ⟨rfl, by kernel_rfl⟩
 ·refine qN [(3, .b false)] 200 ⟨[(0, .d t66 x1), (14, .d t4 false)], []⟩ (aC hb0 aN) ?_
  refine Run.cd false (fun hb => (by cases hb)) (fun hb => ?_)
  refine qK ⟨[(0, .d t66 x1)], []⟩ ?_
  refine Run.ex 0 ?_
  obtain rfl := sI h
  exact ⟨rfl, by kernel_rfl⟩
def F120 (a0 : List Int) : Option ((List Int)) :=
 ((f120_l0  (2 + List.length a0) a0).bind fun o2 =>
 some o2)
theorem c120 {a0 : List Int} {r : (List Int)} (h : F120 a0 = some r) : CallPure Pg 120 [(.d t66 a0)] (.d t66 r) := by
 refine qC c_120 21 [.tmp 2] [66] Go.Proofs.Tryz.func120 ?_
 show Run Pg 21 c_120 ⟨[(0, .d t66 a0)], []⟩ (fin120 r)
 unfold F120 at h
 refine qN [] 100 ⟨[(0, .d t66 a0)], []⟩ aN ?_
 refine Run.sq ?_
 refine Run.bl 0 ?_
 obtain ⟨o2, h_o2, h⟩ := bnd_elim h
 refine Run.mono (f120_l0_ok  _ a0 h_o2) ?_
 rintro _ _ ⟨rfl, rfl⟩
 show Run Pg 21 _ _ _
 refine qN [] 400 ⟨[(2, .d t66 o2)], []⟩ aN ?_
 refine Run.rt ?_
 obtain rfl := sI h
 exact qR [(.d t66 o2)]

/-! ## f75 -/
noncomputable def c_75 : Code := body0 Go.Proofs.Tryz.f75
def fin75 (r : IntL) : Ex → St → Prop := endK X0 [.cell 4 68] [68] (.d t67 r)
def F75 (a0 : Bool) (a1 : List Int) : Option (IntL) :=
 (F120 a1).bind fun y1 =>
 (bif a0 then
 some ((decide ((0 : Int) < (ofN (List.length y1)))), y1)
 else
 some (false, y1))
theorem c75 {a0 : Bool} {a1 : List Int} {r : IntL} (h : F75 a0 a1 = some r) : CallPure Pg 75 [(.d t4 a0), (.d t66 a1)] (.d t67 r) := by
 refine qC c_75 15 [.cell 4 68] [68] Go.Proofs.Tryz.func75 ?_
 show Run Pg 15 c_75 ⟨[(0, .d t4 a0), (1, .d t66 a1)], []⟩ (fin75 r)
 unfold F75 at h
 refine qN [] 100 ⟨[(0, .d t4 a0), (1, .d t66 a1), (4, .ptr 100 0)], [(100, bx 68 t67 (false, ([] : List Int)))]⟩ aN ?_
 obtain ⟨y1, h_y1, h⟩ := bnd_elim h
 refine qN [(1, .call (.d t66 y1))] 200 ⟨[(0, .d t4 a0), (1, .d t66 y1), (4, .ptr 100 0)], [(100, bx 68 t67 (false, ([] : List Int)))]⟩ (aC (c120 h_y1) aN) ?_
 rcases bif_elim h with ⟨hb0, h⟩ | ⟨hb0, h⟩
 ·refine qN [(1, .b true)] 300 ⟨[(4, .ptr 100 0)], [(100, bx 68 t67 ((decide ((0 : Int) < (ofN (List.length y1)))), y1))]⟩ (aC hb0 aN) ?_
  refine Run.rt ?_
  obtain rfl := sI h
  exact qR [(.d t67 ((decide ((0 : Int) < (ofN (List.length y1)))), y1))]
 ·refine qN [(1, .b false)] 300 ⟨[(4, .ptr 100 0)], [(100, bx 68 t67 (false, y1))]⟩ (aC hb0 aN) ?_
  refine Run.rt ?_
  obtain rfl := sI h
  exact qR [(.d t67 (false, y1))]

/-! ## f53 -/
noncomputable def c_53 : Code := body0 Go.Proofs.Tryz.f53
def fin53 (r : IntL) : Ex → St → Prop := endK X0 [.cell 2 68] [68] (.d t67 r)
def F53 (a0 : Int) : Option (IntL) :=
 (bif (decide (a0 < (0 : Int))) then
 (F80 (wrapI .u64 (0 - (wrapI .u64 a0)))).bind fun y1 =>
 (F75 true y1).bind fun y2 =>
 some y2
 else
 (F80 (wrapI .u64 a0)).bind fun y3 =>
 (F75 false y3).bind fun y4 =>
 some y4)
theorem c53 {a0 : Int} {r : IntL} (h : F53 a0 = some r) : CallPure Pg 53 [(.d t2 a0)] (.d t67 r) := by
 refine qC c_53 14 [.cell 2 68] [68] Go.Proofs.Tryz.func53 ?_
 show Run Pg 14 c_53 ⟨[(0, .d t2 a0)], []⟩ (fin53 r)
 unfold F53 at h
 refine qN [] 100 ⟨[(0, .d t2 a0), (2, .ptr 100 0)], [(100, bx 68 t67 (false, ([] : List Int)))]⟩ aN ?_
 refine Run.sq ?_
 refine qN [] 200 ⟨[(0, .d t2 a0), (2, .ptr 100 0), (4, .d t4 (decide (a0 < (0 : Int))))], [(100, bx 68 t67 (false, ([] : List Int)))]⟩ aN ?_
 refine Run.cd (decide (a0 < (0 : Int))) (fun hb => ?_) (fun hb => ?_)
 ·replace h := bif_t h hb
  obtain ⟨y1, h_y1, h⟩ := bnd_elim h
  obtain ⟨y2, h_y2, h⟩ := bnd_elim h
  refine qN [(3, .call (.d t66 y1)), (4, .call (.d t67 y2))] 300 ⟨[(2, .ptr 100 0)], [(100, bx 68 t67 y2)]⟩ (aC (c80 h_y1) (aC (c75 h_y2) aN)) ?_
  refine Run.rt ?_
  obtain rfl := sI h
  exact qR [(.d t67 y2)]
 ·replace h := bif_f h hb
  refine Run.sk ?_
  show Run Pg 14 _ _ _
  obtain ⟨y3, h_y3, h⟩ := bnd_elim h
  obtain ⟨y4, h_y4, h⟩ := bnd_elim h
  refine qN [(2, .call (.d t66 y3)), (3, .call (.d t67 y4))] 400 ⟨[(2, .ptr 100 0)], [(100, bx 68 t67 y4)]⟩ (aC (c80 h_y3) (aC (c75 h_y4) aN)) ?_
  refine Run.rt ?_
  obtain rfl := sI h
  exact qR [(.d t67 y4)]

/-! ## f54 -/
noncomputable def c_54 : Code := body0 Go.Proofs.Tryz.f54
def fin54 (r : IntL) : Ex → St → Prop := endK X0 [.cell 0 68] [68] (.d t67 r)
def F54  : Option (IntL) :=
 (F53 (1 : Int)).bind fun y1 =>
 some y1
theorem c54  {r : IntL} (h : F54  = some r) : CallPure Pg 54 [] (.d t67 r) := by
 refine qC c_54 2 [.cell 0 68] [68] Go.Proofs.Tryz.func54 ?_
 show Run Pg 2 c_54 ⟨[], []⟩ (fin54 r)
 unfold F54 at h
 refine qN [] 100 ⟨[(0, .ptr 100 0)], [(100, bx 68 t67 (false, ([] : List Int)))]⟩ aN ?_
 obtain ⟨y1, h_y1, h⟩ := bnd_elim h
 refine qN [(0, .call (.d t67 y1))] 200 ⟨[(0, .ptr 100 0)], [(100, bx 68 t67 y1)]⟩ (aC (c53 h_y1) aN) ?_
 refine Run.rt ?_
 obtain rfl := sI h
 exact qR [(.d t67 y1)]

/-! ## f35 -/
noncomputable def c_35 : Code := body0 Go.Proofs.Tryz.f35
def fin35 (r : RatL) : Ex → St → Prop := endK X0 [.cell 2 70] [70] (.d t69 r)
def F35 (a0 : Int) : Option RatL :=
 (F53 a0).bind fun y1 =>
 (F54 ).bind fun y2 =>
 some (y1, y2)
theorem c35 {a0 : Int} {r : RatL} (h : F35 a0 = some r) : CallPure Pg 35 [(.d t2 a0)] (.d t69 r) := by
 refine qC c_35 7 [.cell 2 70] [70] Go.Proofs.Tryz.func35 ?_
 show Run Pg 7 c_35 ⟨[(0, .d t2 a0)], []⟩ (fin35 r)
 unfold F35 at h
 refine qN [] 100 ⟨[(0, .d t2 a0), (2, .ptr 100 0)], [(100, bx 70 t69 ((false, ([] : List Int)), (false, ([] : List Int))))]⟩ aN ?_
 obtain ⟨y1, h_y1, h⟩ := bnd_elim h
 obtain ⟨y2, h_y2, h⟩ := bnd_elim h
 refine qN [(1, .call (.d t67 y1)), (2, .call (.d t67 y2))] 200 ⟨[(2, .ptr 100 0)], [(100, bx 70 t69 (y1, y2))]⟩ (aC (c53 h_y1) (aC (c54 h_y2) aN)) ?_
 refine Run.rt ?_
 obtain rfl := sI h
 exact qR [(.d t69 (y1, y2))]

/-! ## f50 -/
noncomputable def c_50 : Code := body0 Go.Proofs.Tryz.f50
def fin50 (r : (RatL × RatL)) : Ex → St → Prop := endK X0 [.cell 4 87] [87] (.d t86 r)
def F50 (a0 : Int) (a1 : Int) : Option ((RatL × RatL)) :=
 (F35 a0).bind fun y1 =>
 (F35 a1).bind fun y2 =>
 some (y1, y2)
theorem c50 {a0 : Int} {a1 : Int} {r : (RatL × RatL)} (h : F50 a0 a1 = some r) : CallPure Pg 50 [(.d t2 a0), (.d t2 a1)] (.d t86 r) := by
 refine qC c_50 10 [.cell 4 87] [87] Go.Proofs.Tryz.func50 ?_
 show Run Pg 10 c_50 ⟨[(0, .d t2 a0), (1, .d t2 a1)], []⟩ (fin50 r)
 unfold F50 at h
 refine qN [] 100 ⟨[(0, .d t2 a0), (1, .d t2 a1), (4, .ptr 100 0)], [(100, bx 87 t86 (((false, ([] : List Int)), (false, ([] : List Int))), ((false, ([] : List Int)), (false, ([] : List Int)))))]⟩ aN ?_
 obtain ⟨y1, h_y1, h⟩ := bnd_elim h
 obtain ⟨y2, h_y2, h⟩ := bnd_elim h
 refine qN [(1, .call (.d t69 y1)), (3, .call (.d t69 y2))] 200 ⟨[(4, .ptr 100 0)], [(100, bx 87 t86 (y1, y2))]⟩ (aC (c35 h_y1) (aC (c35 h_y2) aN)) ?_
 refine Run.rt ?_
 obtain rfl := sI h
 exact qR [(.d t86 (y1, y2))]

/-! ## f128 -/
noncomputable def c_128 : Code := body0 Go.Proofs.Tryz.f128
def fin128 (r : IntL) : Ex → St → Prop := endK X0 [.cell 2 68] [68] (.d t67 r)
def F128 (a0 : IntL) : Option (IntL) :=
 (F75 (!a0.1) a0.2).bind fun y1 =>
 some y1
theorem c128 {a0 : IntL} {r : IntL} (h : F128 a0 = some r) : CallPure Pg 128 [(.d t67 a0)] (.d t67 r) := by
 refine qC c_128 9 [.cell 2 68] [68] Go.Proofs.Tryz.func128 ?_
 show Run Pg 9 c_128 ⟨[(0, .d t67 a0)], []⟩ (fin128 r)
 unfold F128 at h
 refine qN [] 100 ⟨[(1, .ptr 100 0), (2, .ptr 101 0)], [(100, bx 68 t67 a0), (101, bx 68 t67 (false, ([] : List Int)))]⟩ aN ?_
 obtain ⟨y1, h_y1, h⟩ := bnd_elim h
 refine qN [(5, .call (.d t67 y1))] 200 ⟨[(2, .ptr 101 0)], [(101, bx 68 t67 y1)]⟩ (aC (c75 h_y1) aN) ?_
 refine Run.rt ?_
 obtain rfl := sI h
 exact qR [(.d t67 y1)]

/-! ## f222 -/
noncomputable def c_222 : Code := body0 Go.Proofs.Tryz.f222
def fin222 (r : RatL) : Ex → St → Prop := endK X0 [.cell 2 70] [70] (.d t69 r)
def F222 (a0 : RatL) : Option RatL :=
 (F128 a0.1).bind fun y1 =>
 some (y1, a0.2)
theorem c222 {a0 : RatL} {r : RatL} (h : F222 a0 = some r) : CallPure Pg 222 [(.d t69 a0)] (.d t69 r) := by
 refine qC c_222 9 [.cell 2 70] [70] Go.Proofs.Tryz.func222 ?_
 show Run Pg 9 c_222 ⟨[(0, .d t69 a0)], []⟩ (fin222 r)
 unfold F222 at h
 refine qN [] 100 ⟨[(1, .ptr 100 0), (2, .ptr 101 0)], [(100, bx 70 t69 a0), (101, bx 70 t69 ((false, ([] : List Int)), (false, ([] : List Int))))]⟩ aN ?_
 obtain ⟨y1, h_y1, h⟩ := bnd_elim h
 refine qN [(2, .call (.d t67 y1))] 200 ⟨[(2, .ptr 101 0)], [(101, bx 70 t69 (y1, a0.2))]⟩ (aC (c128 h_y1) aN) ?_
 refine Run.rt ?_
 obtain rfl := sI h
 exact qR [(.d t69 (y1, a0.2))]

/-! ## f76 -/
noncomputable def c_76 : Code := body0 Go.Proofs.Tryz.f76
def fin76 (r : (List Int)) : Ex → St → Prop := endK X0 [.tmp 4] [66] (.d t66 r)
def f76_l1_post (x12 : List Int) (x13 : List Int) (x14 : Int) : (Int × (List Int)) → Ex → St → Prop
 | o, x, s => x = .out 2 ∧ s = ⟨[(0, .d t66 x12), (1, .d t66 x13), (5, .vec 205 t158), (6, .d t2 x14), (7, .d t12 o.1)], [(205, .vec 158 t158 o.2)]⟩
def f76_l1_b (x12 : List Int) (x13 : List Int) (x14 : Int) (again : Int × Int × (List Int) → Option (Int × (List Int))) : Int × Int × (List Int) → Option (Int × (List Int))
 | (x15, x16, x17) =>
 (bif (decide (x16 < (ofN (List.length x13)))) then
 gd (0 ≤ (wrapI .i64 (x14 + x16))) <|
 gd ((wrapI .i64 (x14 + x16)) < ((List.length x17 : Nat) : Int)) <|
 gd ((toN (wrapI .i64 (x14 + x16))) < List.length x17) <|
 gd (0 ≤ x14) <|
 gd (x14 < ((List.length x12 : Nat) : Int)) <|
 gd (0 ≤ x16) <|
 gd (x16 < ((List.length x13 : Nat) : Int)) <|
 gd (0 ≤ (wrapI .i64 (x14 + x16))) <|
 gd ((wrapI .i64 (x14 + x16)) < ((List.length x17 : Nat) : Int)) <|
 gd ((toN (wrapI .i64 (x14 + x16))) < List.length x17) <|
 again ((wrapI .u64 (Int.tdiv (wrapI .u64 ((wrapI .u64 (x15 + (wrapI .u64 (List.getD x17 (toN (wrapI .i64 (x14 + x16))) (0 : Int))))) + (wrapI .u64 ((wrapI .u64 (List.getD x12 (toN x14) (0 : Int))) * (wrapI .u64 (List.getD x13 (toN x16) (0 : Int))))))) (1000000000 : Int))), (wrapI .i64 (x16 + (1 : Int))), (List.set x17 (toN (wrapI .i64 (x14 + x16))) (wrapI .u32 (Int.tmod (wrapI .u64 ((wrapI .u64 (x15 + (wrapI .u64 (List.getD x17 (toN (wrapI .i64 (x14 + x16))) (0 : Int))))) + (wrapI .u64 ((wrapI .u64 (List.getD x12 (toN x14) (0 : Int))) * (wrapI .u64 (List.getD x13 (toN x16) (0 : Int))))))) (1000000000 : Int)))))
 else
 some (x15, x17))
def f76_l1 (x12 : List Int) (x13 : List Int) (x14 : Int) : Nat → Int × Int × (List Int) → Option (Int × (List Int)) := loopF (f76_l1_b x12 x13 x14)
theorem f76_l1_ok (x12 : List Int) (x13 : List Int) (x14 : Int) (k : Nat) (x15 : Int) (x16 : Int) (x17 : List Int) {out : (Int × (List Int))} (h : f76_l1 x12 x13 x14 k (x15, x16, x17) = some out) : Run Pg 68 (bk1 (sq2 (sq1 (sq2 (bk1 (sq1 (sq2 (lp1 (bk1 (sq2 (sq1 (sq2 (sq2 c_76))))))))))))) ⟨[(0, .d t66 x12), (1, .d t66 x13), (5, .vec 205 t158), (6, .d t2 x14), (7, .d t12 x15), (8, .d t2 x16)], [(205, .vec 158 t158 x17)]⟩ (f76_l1_post x12 x13 x14 out) := by
 refine Run.loopN (by kernel_rfl) (fun m s => ∃ x15 x16 x17, s = ⟨[(0, .d t66 x12), (1, .d t66 x13), (5, .vec 205 t158), (6, .d t2 x14), (7, .d t12 x15), (8, .d t2 x16)], [(205, .vec 158 t158 x17)]⟩ ∧ f76_l1 x12 x13 x14 m (x15, x16, x17) = some out) ?_ k ⟨x15, x16, x17,  rfl, h⟩
 rintro m s ⟨x15, x16, x17,  rfl, h⟩
 cases m with
 | zero => cases h
 | succ m =>
 replace h : f76_l1_b x12 x13 x14 (f76_l1 x12 x13 x14 m) (x15, x16, x17) = some out := h
 unfold f76_l1_b at h
 refine Run.sq ?_
 refine qN [] 800 ⟨[(0, .d t66 x12), (1, .d t66 x13), (5, .vec 205 t158), (6, .d t2 x14), (7, .d t12 x15), (8, .d t2 x16), (24, .d t4 (decide (x16 < (ofN (List.length x13)))))], [(205, .vec 158 t158 x17)]⟩ aN ?_
 refine Run.cd (decide (x16 < (ofN (List.length x13)))) (fun hb => ?_) (fun hb => ?_)
 ·replace h := bif_t h hb
  refine Run.sk ?_
  show Run Pg 68 _ _ _
  refine Run.sq ?_
  refine Run.bl 3 ?_
  obtain ⟨g_0, h⟩ := gd_elim h
  obtain ⟨g_1, h⟩ := gd_elim h
  obtain ⟨g_2, h⟩ := gd_elim h
  obtain ⟨g_3, h⟩ := gd_elim h
  obtain ⟨g_4, h⟩ := gd_elim h
  obtain ⟨g_5, h⟩ := gd_elim h
  obtain ⟨g_6, h⟩ := gd_elim h
  refine qN [] 1000 ⟨[(0, .d t66 x12), (1, .d t66 x13), (5, .vec 205 t158), (6, .d t2 x14), (7, .d t12 (wrapI .u64 ((wrapI .u64 (x15 + (wrapI .u64 (List.getD x17 (toN (wrapI .i64 (x14 + x16))) (0 : Int))))) + (wrapI .u64 ((wrapI .u64 (List.getD x12 (toN x14) (0 : Int))) * (wrapI .u64 (List.getD x13 (toN x16) (0 : Int)))))))), (8, .d t2 x16)], [(205, .vec 158 t158 x17)]⟩ (aC g_0 (aC g_1 (aC g_2 (aC g_3 (aC g_4 (aC g_5 (aC g_6 aN))))))) ?_
  obtain ⟨g_1, h⟩ := gd_elim h
  obtain ⟨g_2, h⟩ := gd_elim h
  obtain ⟨g_3, h⟩ := gd_elim h
  refine qN [] 1100 ⟨[(0, .d t66 x12), (1, .d t66 x13), (5, .vec 205 t158), (6, .d t2 x14), (7, .d t12 (wrapI .u64 ((wrapI .u64 (x15 + (wrapI .u64 (List.getD x17 (toN (wrapI .i64 (x14 + x16))) (0 : Int))))) + (wrapI .u64 ((wrapI .u64 (List.getD x12 (toN x14) (0 : Int))) * (wrapI .u64 (List.getD x13 (toN x16) (0 : Int)))))))), (8, .d t2 x16)], [(205, .vec 158 t158 (List.set x17 (toN (wrapI .i64 (x14 + x16))) (wrapI .u32 (Int.tmod (wrapI .u64 ((wrapI .u64 (x15 + (wrapI .u64 (List.getD x17 (toN (wrapI .i64 (x14 + x16))) (0 : Int))))) + (wrapI .u64 ((wrapI .u64 (List.getD x12 (toN x14) (0 : Int))) * (wrapI .u64 (List.getD x13 (toN x16) (0 : Int))))))) (1000000000 : Int)))))]⟩ (aC (show ((1000000000 : Int) ≠ 0) from (by decide)) (aC g_1 (aC g_2 (aC g_3 aN)))) ?_
  refine qE [] 1200 ⟨[(0, .d t66 x12), (1, .d t66 x13), (5, .vec 205 t158), (6, .d t2 x14), (7, .d t12 (wrapI .u64 (Int.tdiv (wrapI .u64 ((wrapI .u64 (x15 + (wrapI .u64 (List.getD x17 (toN (wrapI .i64 (x14 + x16))) (0 : Int))))) + (wrapI .u64 ((wrapI .u64 (List.getD x12 (toN x14) (0 : Int))) * (wrapI .u64 (List.getD x13 (toN x16) (0 : Int))))))) (1000000000 : Int)))), (8, .d t2 x16)], [(205, .vec 158 t158 (List.set x17 (toN (wrapI .i64 (x14 + x16))) (wrapI .u32 (Int.tmod (wrapI .u64 ((wrapI .u64 (x15 + (wrapI .u64 (List.getD x17 (toN (wrapI .i64 (x14 + x16))) (0 : Int))))) + (wrapI .u64 ((wrapI .u64 (List.getD x12 (toN x14) (0 : Int))) * (wrapI .u64 (List.getD x13 (toN x16) (0 : Int))))))) (1000000000 : Int)))))]⟩ (aC (show ((1000000000 : Int) ≠ 0) from (by decide)) aN) ?_
  show Run Pg 68 _ _ _
  refine qE [] 900 ⟨[(0, .d t66 x12), (1, .d t66 x13), (5, .vec 205 t158), (6, .d t2 x14), (7, .d t12 (wrapI .u64 (Int.tdiv (wrapI .u64 ((wrapI .u64 (x15 + (wrapI .u64 (List.getD x17 (toN (wrapI .i64 (x14 + x16))) (0 : Int))))) + (wrapI .u64 ((wrapI .u64 (List.getD x12 (toN x14) (0 : Int))) * (wrapI .u64 (List.getD x13 (toN x16) (0 : Int))))))) (1000000000 : Int)))), (8, .d t2 (wrapI .i64 (x16 + (1 : Int))))], [(205, .vec 158 t158 (List.set x17 (toN (wrapI .i64 (x14 + x16))) (wrapI .u32 (Int.tmod (wrapI .u64 ((wrapI .u64 (x15 + (wrapI .u64 (List.getD x17 (toN (wrapI .i64 (x14 + x16))) (0 : Int))))) + (wrapI .u64 ((wrapI .u64 (List.getD x12 (toN x14) (0 : Int))) * (wrapI .u64 (List.getD x13 (toN x16) (0 : Int))))))) (1000000000 : Int)))))]⟩ aN ?_
  exact ⟨m, Nat.lt_succ_self m, _, _, _, rfl, h⟩
 ·replace h := bif_f h hb
  refine qK ⟨[(0, .d t66 x12), (1, .d t66 x13), (5, .vec 205 t158), (6, .d t2 x14), (7, .d t12 x15)], [(205, .vec 158 t158 x17)]⟩ ?_
  refine Run.ex 2 ?_
  obtain rfl := sI h
  exact ⟨rfl, by kernel_rfl⟩
def f76_l0_post (x1 : List Int) (x2 : List Int) : ((List Int)) → Ex → St → Prop
 | o, x, s => x = .out 0 ∧ s = ⟨[(5, .vec 205 t158)], [(205, .vec 158 t158 o)]⟩
def f76_l0_b (x1 : List Int) (x2 : List Int) (again : Int × (List Int) → Option ((List Int))) : Int × (List Int) → Option ((List Int))
 | (x3, x4) =>
 (bif (decide (x3 < (ofN (List.length x1)))) then
 ((f76_l1 x1 x2 x3 (2 + List.length x1 + List.length x2 + List.length x4) ((0 : Int), (0 : Int), x4)).bind fun o18 =>
 gd (0 ≤ (wrapI .i64 (x3 + (ofN (List.length x2))))) <|
 gd ((wrapI .i64 (x3 + (ofN (List.length x2)))) < ((List.length o18.2 : Nat) : Int)) <|
 gd ((toN (wrapI .i64 (x3 + (ofN (List.length x2))))) < List.length o18.2) <|
 again ((wrapI .i64 (x3 + (1 : Int))), (List.set o18.2 (toN (wrapI .i64 (x3 + (ofN (List.length x2))))) (wrapI .u32 o18.1))))
 else
 some x4)
def f76_l0 (x1 : List Int) (x2 : List Int) : Nat → Int × (List Int) → Option ((List Int)) := loopF (f76_l0_b x1 x2)
theorem f76_l0_ok (x1 : List Int) (x2 : List Int) (k : Nat) (x3 : Int) (x4 : List Int) {out : ((List Int))} (h : f76_l0 x1 x2 k (x3, x4) = some out) : Run Pg 68 (bk1 (sq2 (sq1 (sq2 (sq2 c_76))))) ⟨[(0, .d t66 x1), (1, .d t66 x2), (5, .vec 205 t158), (6, .d t2 x3)], [(205, .vec 158 t158 x4)]⟩ (f76_l0_post x1 x2 out) := by
 refine Run.loopN (by kernel_rfl) (fun m s => ∃ x3 x4, s = ⟨[(0, .d t66 x1), (1, .d t66 x2), (5, .vec 205 t158), (6, .d t2 x3)], [(205, .vec 158 t158 x4)]⟩ ∧ f76_l0 x1 x2 m (x3, x4) = some out) ?_ k ⟨x3, x4,  rfl, h⟩
 rintro m s ⟨x3, x4,  rfl, h⟩
 cases m with
 | zero => cases h
 | succ m =>
 replace h : f76_l0_b x1 x2 (f76_l0 x1 x2 m) (x3, x4) = some out := h
 unfold f76_l0_b at h
 refine Run.sq ?_
 refine qN [] 400 ⟨[(0, .d t66 x1), (1, .d t66 x2), (5, .vec 205 t158), (6, .d t2 x3), (18, .d t4 (decide (x3 < (ofN (List.length x1)))))], [(205, .vec 158 t158 x4)]⟩ aN ?_
 refine Run.cd (decide (x3 < (ofN (List.length x1)))) (fun hb => ?_) (fun hb => ?_)
 ·replace h := bif_t h hb
  refine Run.sk ?_
  show Run Pg 68 _ _ _
  refine Run.sq ?_
  refine Run.bl 1 ?_
  refine qN [] 600 ⟨[(0, .d t66 x1), (1, .d t66 x2), (5, .vec 205 t158), (6, .d t2 x3), (7, .d t12 (0 : Int))], [(205, .vec 158 t158 x4)]⟩ aN ?_
  refine Run.sq ?_
  refine qN [] 700 ⟨[(0, .d t66 x1), (1, .d t66 x2), (5, .vec 205 t158), (6, .d t2 x3), (7, .d t12 (0 : Int)), (8, .d t2 (0 : Int))], [(205, .vec 158 t158 x4)]⟩ aN ?_
  refine Run.bl 2 ?_
  obtain ⟨o18, h_o18, h⟩ := bnd_elim h
  refine Run.mono (f76_l1_ok x1 x2 x3 _ (0 : Int) (0 : Int) x4 h_o18) ?_
  rintro _ _ ⟨rfl, rfl⟩
  show Run Pg 68 _ _ _
  obtain ⟨g_0, h⟩ := gd_elim h
  obtain ⟨g_1, h⟩ := gd_elim h
  obtain ⟨g_2, h⟩ := gd_elim h
  refine qE [] 1300 ⟨[(0, .d t66 x1), (1, .d t66 x2), (5, .vec 205 t158), (6, .d t2 x3)], [(205, .vec 158 t158 (List.set o18.2 (toN (wrapI .i64 (x3 + (ofN (List.length x2))))) (wrapI .u32 o18.1)))]⟩ (aC g_0 (aC g_1 (aC g_2 aN))) ?_
  show Run Pg 68 _ _ _
  refine qE [] 500 ⟨[(0, .d t66 x1), (1, .d t66 x2), (5, .vec 205 t158), (6, .d t2 (wrapI .i64 (x3 + (1 : Int))))], [(205, .vec 158 t158 (List.set o18.2 (toN (wrapI .i64 (x3 + (ofN (List.length x2))))) (wrapI .u32 o18.1)))]⟩ aN ?_
  exact ⟨m, Nat.lt_succ_self m, _, _, rfl, h⟩
 ·replace h := bif_f h hb
  refine qK ⟨[(5, .vec 205 t158)], [(205, .vec 158 t158 x4)]⟩ ?_
  refine Run.ex 0 ?_
  obtain rfl := sI h
  exact ⟨rfl, by kernel_rfl⟩
def F76 (a0 : List Int) (a1 : List Int) : Option ((List Int)) :=
 gd (0 ≤ (wrapI .i64 ((ofN (List.length a0)) + (ofN (List.length a1))))) <|
 gd ((wrapI .i64 ((ofN (List.length a0)) + (ofN (List.length a1)))) ≤ (wrapI .i64 ((ofN (List.length a0)) + (ofN (List.length a1))))) <|
 gd ((wrapI .i64 ((ofN (List.length a0)) + (ofN (List.length a1)))) ≤ 1073741824) <|
 ((f76_l0 a0 a1 (2 + List.length a0 + List.length a1 + List.length (List.replicate (toN (wrapI .i64 ((ofN (List.length a0)) + (ofN (List.length a1))))) (0 : Int))) ((0 : Int), (List.replicate (toN (wrapI .i64 ((ofN (List.length a0)) + (ofN (List.length a1))))) (0 : Int)))).bind fun o19 =>
 (F120 o19).bind fun y20 =>
 some y20)
theorem c76 {a0 : List Int} {a1 : List Int} {r : (List Int)} (h : F76 a0 a1 = some r) : CallPure Pg 76 [(.d t66 a0), (.d t66 a1)] (.d t66 r) := by
 refine qC c_76 68 [.tmp 4] [66] Go.Proofs.Tryz.func76 ?_
 show Run Pg 68 c_76 ⟨[(0, .d t66 a0), (1, .d t66 a1)], []⟩ (fin76 r)
 unfold F76 at h
 refine qN [] 100 ⟨[(0, .d t66 a0), (1, .d t66 a1)], []⟩ aN ?_
 obtain ⟨g_0, h⟩ := gd_elim h
 obtain ⟨g_1, h⟩ := gd_elim h
 obtain ⟨g_2, h⟩ := gd_elim h
 refine qN [] 200 ⟨[(0, .d t66 a0), (1, .d t66 a1), (5, .vec 205 t158)], [(205, .vec 158 t158 (List.replicate (toN (wrapI .i64 ((ofN (List.length a0)) + (ofN (List.length a1))))) (0 : Int)))]⟩ (aC g_0 (aC g_1 (aC g_2 aN))) ?_
 refine Run.sq ?_
 refine qN [] 300 ⟨[(0, .d t66 a0), (1, .d t66 a1), (5, .vec 205 t158), (6, .d t2 (0 : Int))], [(205, .vec 158 t158 (List.replicate (toN (wrapI .i64 ((ofN (List.length a0)) + (ofN (List.length a1))))) (0 : Int)))]⟩ aN ?_
 refine Run.bl 0 ?_
 obtain ⟨o19, h_o19, h⟩ := bnd_elim h
 refine Run.mono (f76_l0_ok a0 a1 _ (0 : Int) (List.replicate (toN (wrapI .i64 ((ofN (List.length a0)) + (ofN (List.length a1))))) (0 : Int)) h_o19) ?_
 rintro _ _ ⟨rfl, rfl⟩
 show Run Pg 68 _ _ _
 refine Run.freeze (s' := ⟨[(5, .d t66 o19)], []⟩) 205 (by kernel_rfl) ?_
 obtain ⟨y20, h_y20, h⟩ := bnd_elim h
 refine qN [(1, .call (.d t66 y20))] 1400 ⟨[(4, .d t66 y20)], []⟩ (aC (c120 h_y20) aN) ?_
 refine Run.rt ?_
 obtain rfl := sI h
 exact qR [(.d t66 y20)]

/-! ## f48 -/
noncomputable def c_48 : Code := body0 Go.Proofs.Tryz.f48
def fin48 (r : IntL) : Ex → St → Prop := endK X0 [.cell 4 68] [68] (.d t67 r)
def F48 (a0 : IntL) (a1 : IntL) : Option (IntL) :=
 (F76 a0.2 a1.2).bind fun y1 =>
 (F75 (!(a0.1 == a1.1)) y1).bind fun y2 =>
 some y2
theorem c48 {a0 : IntL} {a1 : IntL} {r : IntL} (h : F48 a0 a1 = some r) : CallPure Pg 48 [(.d t67 a0), (.d t67 a1)] (.d t67 r) := by
 refine qC c_48 16 [.cell 4 68] [68] Go.Proofs.Tryz.func48 ?_
 show Run Pg 16 c_48 ⟨[(0, .d t67 a0), (1, .d t67 a1)], []⟩ (fin48 r)
 unfold F48 at h
 refine qN [] 100 ⟨[(2, .ptr 100 0), (3, .ptr 101 0), (4, .ptr 102 0)], [(100, bx 68 t67 a0), (101, bx 68 t67 a1), (102, bx 68 t67 (false, ([] : List Int)))]⟩ aN ?_
 obtain ⟨y1, h_y1, h⟩ := bnd_elim h
 obtain ⟨y2, h_y2, h⟩ := bnd_elim h
 refine qN [(9, .call (.d t66 y1)), (10, .call (.d t67 y2))] 200 ⟨[(4, .ptr 102 0)], [(102, bx 68 t67 y2)]⟩ (aC (c76 h_y1) (aC (c75 h_y2) aN)) ?_
 refine Run.rt ?_
 obtain rfl := sI h
 exact qR [(.d t67 y2)]

/-! ## f206 -/
noncomputable def c_206 : Code := body0 Go.Proofs.Tryz.f206
def fin206 (r : (List Int)) : Ex → St → Prop := endK X0 [.tmp 4] [66] (.d t66 r)
def f206_c0_post (x1 : List Int) (x2 : List Int) (x3 : Bool) : ((List Int) × (List Int)) → Ex → St → Prop
 | o, x, s => x = .nrm ∧ s = ⟨[(0, .d t66 o.1), (1, .d t66 o.2)], []⟩
def f206_c0 (x1 : List Int) (x2 : List Int) (x3 : Bool) : Option ((List Int) × (List Int)) :=
 (bif x3 then
 some (x2, x1)
 else
 some (x1, x2))
theorem f206_c0_ok (x1 : List Int) (x2 : List Int) (x3 : Bool) {out : ((List Int) × (List Int))} (h : f206_c0 x1 x2 x3 = some out) : Run Pg 55 (sq2 (sq1 (sq2 c_206))) ⟨[(0, .d t66 x1), (1, .d t66 x2), (12, .d t4 x3)], []⟩ (f206_c0_post x1 x2 x3 out) := by
 unfold f206_c0 at h
 refine Run.cd x3 (fun hb => ?_) (fun hb => ?_)
 ·replace h := bif_t h hb
  refine qE [] 300 ⟨[(0, .d t66 x2), (1, .d t66 x1)], []⟩ aN ?_
  obtain rfl := sI h
  exact ⟨rfl, by kernel_rfl⟩
 ·replace h := bif_f h hb
  refine qK ⟨[(0, .d t66 x1), (1, .d t66 x2)], []⟩ ?_
  refine Run.sk ?_
  obtain rfl := sI h
  exact ⟨rfl, by kernel_rfl⟩
def f206_c2_post (x17 : List Int) (x18 : List Int) (x19 : Int) (x20 : Int) (x21 : Bool) (x22 : List Int) : (Int) → Ex → St → Prop
 | o, x, s => x = .nrm ∧ s = ⟨[(0, .d t66 x17), (1, .d t66 x18), (5, .vec 403 t158), (6, .d t158 o), (7, .d t2 x20)], [(403, .vec 158 t158 x22)]⟩
def f206_c2 (x18 : List Int) (x19 : Int) (x20 : Int) (x21 : Bool) : Option (Int) :=
 (bif x21 then
 gd (0 ≤ x20) <|
 gd (x20 < ((List.length x18 : Nat) : Int)) <|
 some (wrapI .u32 (x19 + (List.getD x18 (toN x20) (0 : Int))))
 else
 some x19)
theorem f206_c2_ok (x17 : List Int) (x18 : List Int) (x19 : Int) (x20 : Int) (x21 : Bool) (x22 : List Int) {out : (Int)} (h : f206_c2 x18 x19 x20 x21 = some out) : Run Pg 55 (sq2 (sq1 (sq2 (bk1 (sq1 (sq2 (lp1 (bk1 (sq2 (sq1 (sq2 (sq2 (sq2 (sq2 c_206)))))))))))))) ⟨[(0, .d t66 x17), (1, .d t66 x18), (5, .vec 403 t158), (6, .d t158 x19), (7, .d t2 x20), (34, .d t4 x21)], [(403, .vec 158 t158 x22)]⟩ (f206_c2_post x17 x18 x19 x20 x21 x22 out) := by
 unfold f206_c2 at h
 refine Run.cd x21 (fun hb => ?_) (fun hb => ?_)
 ·replace h := bif_t h hb
  obtain ⟨g_0, h⟩ := gd_elim h
  obtain ⟨g_1, h⟩ := gd_elim h
  refine qE [] 1100 ⟨[(0, .d t66 x17), (1, .d t66 x18), (5, .vec 403 t158), (6, .d t158 (wrapI .u32 (x19 + (List.getD x18 (toN x20) (0 : Int))))), (7, .d t2 x20)], [(403, .vec 158 t158 x22)]⟩ (aC g_0 (aC g_1 aN)) ?_
  obtain rfl := sI h
  exact ⟨rfl, by kernel_rfl⟩
 ·replace h := bif_f h hb
  refine qK ⟨[(0, .d t66 x17), (1, .d t66 x18), (5, .vec 403 t158), (6, .d t158 x19), (7, .d t2 x20)], [(403, .vec 158 t158 x22)]⟩ ?_
  refine Run.sk ?_
  obtain rfl := sI h
  exact ⟨rfl, by kernel_rfl⟩
def f206_l1_post (x5 : List Int) (x6 : List Int) : (Int × (List Int)) → Ex → St → Prop
 | o, x, s => x = .out 0 ∧ s = ⟨[(0, .d t66 x5), (5, .vec 403 t158), (6, .d t158 o.1)], [(403, .vec 158 t158 o.2)]⟩
def f206_l1_b (x5 : List Int) (x6 : List Int) (again : Int × Int × (List Int) → Option (Int × (List Int))) : Int × Int × (List Int) → Option (Int × (List Int))
 | (x7, x8, x9) =>
 (bif (decide (x8 < (ofN (List.length x5)))) then
 gd (0 ≤ x8) <|
 gd (x8 < ((List.length x5 : Nat) : Int)) <|
 ((f206_c2 x6 (wrapI .u32 (x7 + (List.getD x5 (toN x8) (0 : Int)))) x8 (decide (x8 < (ofN (List.length x6))))).bind fun o23 =>
 gd (0 ≤ x8) <|
 gd (x8 < ((List.length x9 : Nat) : Int)) <|
 gd ((toN x8) < List.length x9) <|
 again ((wrapI .u32 (Int.tdiv o23 (1000000000 : Int))), (wrapI .i64 (x8 + (1 : Int))), (List.set x9 (toN x8) (Int.tmod o23 (1000000000 : Int)))))
 else
 some (x7, x9))
def f206_l1 (x5 : List Int) (x6 : List Int) : Nat → Int × Int × (List Int) → Option (Int × (List Int)) := loopF (f206_l1_b x5 x6)
theorem f206_l1_ok (x5 : List Int) (x6 : List Int) (k : Nat) (x7 : Int) (x8 : Int) (x9 : List Int) {out : (Int × (List Int))} (h : f206_l1 x5 x6 k (x7, x8, x9) = some out) : Run Pg 55 (bk1 (sq2 (sq1 (sq2 (sq2 (sq2 (sq2 c_206))))))) ⟨[(0, .d t66 x5), (1, .d t66 x6), (5, .vec 403 t158), (6, .d t158 x7), (7, .d t2 x8)], [(403, .vec 158 t158 x9)]⟩ (f206_l1_post x5 x6 out) := by
 refine Run.loopN (by kernel_rfl) (fun m s => ∃ x7 x8 x9, s = ⟨[(0, .d t66 x5), (1, .d t66 x6), (5, .vec 403 t158), (6, .d t158 x7), (7, .d t2 x8)], [(403, .vec 158 t158 x9)]⟩ ∧ f206_l1 x5 x6 m (x7, x8, x9) = some out) ?_ k ⟨x7, x8, x9,  rfl, h⟩
 rintro m s ⟨x7, x8, x9,  rfl, h⟩
 cases m with
 | zero => cases h
 | succ m =>
 replace h : f206_l1_b x5 x6 (f206_l1 x5 x6 m) (x7, x8, x9) = some out := h
 unfold f206_l1_b at h
 refine Run.sq ?_
 refine qN [] 700 ⟨[(0, .d t66 x5), (1, .d t66 x6), (5, .vec 403 t158), (6, .d t158 x7), (7, .d t2 x8), (22, .d t4 (decide (x8 < (ofN (List.length x5)))))], [(403, .vec 158 t158 x9)]⟩ aN ?_
 refine Run.cd (decide (x8 < (ofN (List.length x5)))) (fun hb => ?_) (fun hb => ?_)
 ·replace h := bif_t h hb
  refine Run.sk ?_
  show Run Pg 55 _ _ _
  refine Run.sq ?_
  refine Run.bl 1 ?_
  obtain ⟨g_0, h⟩ := gd_elim h
  obtain ⟨g_1, h⟩ := gd_elim h
  refine qN [] 900 ⟨[(0, .d t66 x5), (1, .d t66 x6), (5, .vec 403 t158), (6, .d t158 (wrapI .u32 (x7 + (List.getD x5 (toN x8) (0 : Int))))), (7, .d t2 x8)], [(403, .vec 158 t158 x9)]⟩ (aC g_0 (aC g_1 aN)) ?_
  refine Run.sq ?_
  refine qN [] 1000 ⟨[(0, .d t66 x5), (1, .d t66 x6), (5, .vec 403 t158), (6, .d t158 (wrapI .u32 (x7 + (List.getD x5 (toN x8) (0 : Int))))), (7, .d t2 x8), (34, .d t4 (decide (x8 < (ofN (List.length x6)))))], [(403, .vec 158 t158 x9)]⟩ aN ?_
  obtain ⟨o23, h_o23, h⟩ := bnd_elim h
  refine Run.mono (f206_c2_ok x5 x6 (wrapI .u32 (x7 + (List.getD x5 (toN x8) (0 : Int)))) x8 (decide (x8 < (ofN (List.length x6)))) x9 h_o23) ?_
  rintro _ _ ⟨rfl, rfl⟩
  show Run Pg 55 _ _ _
  obtain ⟨g_1, h⟩ := gd_elim h
  obtain ⟨g_2, h⟩ := gd_elim h
  obtain ⟨g_3, h⟩ := gd_elim h
  refine qN [] 1200 ⟨[(0, .d t66 x5), (1, .d t66 x6), (5, .vec 403 t158), (6, .d t158 o23), (7, .d t2 x8)], [(403, .vec 158 t158 (List.set x9 (toN x8) (Int.tmod o23 (1000000000 : Int))))]⟩ (aC (show ((1000000000 : Int) ≠ 0) from (by decide)) (aC g_1 (aC g_2 (aC g_3 aN)))) ?_
  refine qE [] 1300 ⟨[(0, .d t66 x5), (1, .d t66 x6), (5, .vec 403 t158), (6, .d t158 (wrapI .u32 (Int.tdiv o23 (1000000000 : Int)))), (7, .d t2 x8)], [(403, .vec 158 t158 (List.set x9 (toN x8) (Int.tmod o23 (1000000000 : Int))))]⟩ (aC (show ((1000000000 : Int) ≠ 0) from (by decide)) aN) ?_
  show Run Pg 55 _ _ _
  refine qE [] 800 ⟨[(0, .d t66 x5), (1, .d t66 x6), (5, .vec 403 t158), (6, .d t158 (wrapI .u32 (Int.tdiv o23 (1000000000 : Int)))), (7, .d t2 (wrapI .i64 (x8 + (1 : Int))))], [(403, .vec 158 t158 (List.set x9 (toN x8) (Int.tmod o23 (1000000000 : Int))))]⟩ aN ?_
  exact ⟨m, Nat.lt_succ_self m, _, _, _, rfl, h⟩
 ·replace h := bif_f h hb
  refine qK ⟨[(0, .d t66 x5), (5, .vec 403 t158), (6, .d t158 x7)], [(403, .vec 158 t158 x9)]⟩ ?_
  refine Run.ex 0 ?_
  obtain rfl := sI h
  exact ⟨rfl, by kernel_rfl⟩
def F206 (a0 : List Int) (a1 : List Int) : Option ((List Int)) :=
 ((f206_c0 a0 a1 (decide ((ofN (List.length a0)) < (ofN (List.length a1))))).bind fun o4 =>
 gd (0 ≤ (wrapI .i64 ((ofN (List.length o4.1)) + (1 : Int)))) <|
 gd ((wrapI .i64 ((ofN (List.length o4.1)) + (1 : Int))) ≤ (wrapI .i64 ((ofN (List.length o4.1)) + (1 : Int)))) <|
 gd ((wrapI .i64 ((ofN (List.length o4.1)) + (1 : Int))) ≤ 1073741824) <|
 ((f206_l1 o4.1 o4.2 (2 + List.length o4.1 + List.length o4.2 + List.length (List.replicate (toN (wrapI .i64 ((ofN (List.length o4.1)) + (1 : Int)))) (0 : Int))) ((0 : Int), (0 : Int), (List.replicate (toN (wrapI .i64 ((ofN (List.length o4.1)) + (1 : Int)))) (0 : Int)))).bind fun o24 =>
 gd (0 ≤ (ofN (List.length o4.1))) <|
 gd ((ofN (List.length o4.1)) < ((List.length o24.2 : Nat) : Int)) <|
 gd ((toN (ofN (List.length o4.1))) < List.length o24.2) <|
 (F120 (List.set o24.2 (toN (ofN (List.length o4.1))) o24.1)).bind fun y25 =>
 some y25))
theorem c206 {a0 : List Int} {a1 : List Int} {r : (List Int)} (h : F206 a0 a1 = some r) : CallPure Pg 206 [(.d t66 a0), (.d t66 a1)] (.d t66 r) := by
 refine qC c_206 55 [.tmp 4] [66] Go.Proofs.Tryz.func206 ?_
 show Run Pg 55 c_206 ⟨[(0, .d t66 a0), (1, .d t66 a1)], []⟩ (fin206 r)
 unfold F206 at h
 refine qN [] 100 ⟨[(0, .d t66 a0), (1, .d t66 a1)], []⟩ aN ?_
 refine Run.sq ?_
 refine qN [] 200 ⟨[(0, .d t66 a0), (1, .d t66 a1), (12, .d t4 (decide ((ofN (List.length a0)) < (ofN (List.length a1)))))], []⟩ aN ?_
 obtain ⟨o4, h_o4, h⟩ := bnd_elim h
 refine Run.mono (f206_c0_ok a0 a1 (decide ((ofN (List.length a0)) < (ofN (List.length a1)))) h_o4) ?_
 rintro _ _ ⟨rfl, rfl⟩
 show Run Pg 55 _ _ _
 obtain ⟨g_0, h⟩ := gd_elim h
 obtain ⟨g_1, h⟩ := gd_elim h
 obtain ⟨g_2, h⟩ := gd_elim h
 refine qN [] 400 ⟨[(0, .d t66 o4.1), (1, .d t66 o4.2), (5, .vec 403 t158)], [(403, .vec 158 t158 (List.replicate (toN (wrapI .i64 ((ofN (List.length o4.1)) + (1 : Int)))) (0 : Int)))]⟩ (aC g_0 (aC g_1 (aC g_2 aN))) ?_
 refine qN [] 500 ⟨[(0, .d t66 o4.1), (1, .d t66 o4.2), (5, .vec 403 t158), (6, .d t158 (0 : Int))], [(403, .vec 158 t158 (List.replicate (toN (wrapI .i64 ((ofN (List.length o4.1)) + (1 : Int)))) (0 : Int)))]⟩ aN ?_
 refine Run.sq ?_
 refine qN [] 600 ⟨[(0, .d t66 o4.1), (1, .d t66 o4.2), (5, .vec 403 t158), (6, .d t158 (0 : Int)), (7, .d t2 (0 : Int))], [(403, .vec 158 t158 (List.replicate (toN (wrapI .i64 ((ofN (List.length o4.1)) + (1 : Int)))) (0 : Int)))]⟩ aN ?_
 refine Run.bl 0 ?_
 obtain ⟨o24, h_o24, h⟩ := bnd_elim h
 refine Run.mono (f206_l1_ok o4.1 o4.2 _ (0 : Int) (0 : Int) (List.replicate (toN (wrapI .i64 ((ofN (List.length o4.1)) + (1 : Int)))) (0 : Int)) h_o24) ?_
 rintro _ _ ⟨rfl, rfl⟩
 show Run Pg 55 _ _ _
 obtain ⟨g_0, h⟩ := gd_elim h
 obtain ⟨g_1, h⟩ := gd_elim h
 obtain ⟨g_2, h⟩ := gd_elim h
 refine qN [] 1400 ⟨[(5, .vec 403 t158)], [(403, .vec 158 t158 (List.set o24.2 (toN (ofN (List.length o4.1))) o24.1))]⟩ (aC g_0 (aC g_1 (aC g_2 aN))) ?_
 refine Run.freeze (s' := ⟨[(5, .d t66 (List.set o24.2 (toN (ofN (List.length o4.1))) o24.1))], []⟩) 403 (by kernel_rfl) ?_
 obtain ⟨y25, h_y25, h⟩ := bnd_elim h
 refine qN [(1, .call (.d t66 y25))] 1500 ⟨[(4, .d t66 y25)], []⟩ (aC (c120 h_y25) aN) ?_
 refine Run.rt ?_
 obtain rfl := sI h
 exact qR [(.d t66 y25)]

/-! ## f74 -/
noncomputable def c_74 : Code := body0 Go.Proofs.Tryz.f74
def fin74 (r : Int) : Ex → St → Prop := endK X0 [.tmp 4] [3] (.d t2 r)
def f74_l0_post (x1 : List Int) (x2 : List Int) : ((Unit) ⊕ (Int)) → Ex → St → Prop
 | .inl o, x, s => x = .out 0 ∧ s = ⟨[], []⟩
 | .inr o, x, s => x = .ret ∧ fin74  o x s
def f74_l0_b (x1 : List Int) (x2 : List Int) (again : Int → Option ((Unit) ⊕ (Int))) : Int → Option ((Unit) ⊕ (Int))
 | x3 =>
 (bif (decide ((0 : Int) ≤ x3)) then
 gd (0 ≤ x3) <|
 gd (x3 < ((List.length x1 : Nat) : Int)) <|
 gd (0 ≤ x3) <|
 gd (x3 < ((List.length x2 : Nat) : Int)) <|
 (bif (decide ((List.getD x1 (toN x3) (0 : Int)) < (List.getD x2 (toN x3) (0 : Int)))) then
 some (.inr (-1 : Int))
 else
 gd (0 ≤ x3) <|
 gd (x3 < ((List.length x1 : Nat) : Int)) <|
 gd (0 ≤ x3) <|
 gd (x3 < ((List.length x2 : Nat) : Int)) <|
 (bif (decide ((List.getD x2 (toN x3) (0 : Int)) < (List.getD x1 (toN x3) (0 : Int)))) then
 some (.inr (1 : Int))
 else
 again (wrapI .i64 (x3 - (1 : Int)))))
 else
 some (.inl ()))
def f74_l0 (x1 : List Int) (x2 : List Int) : Nat → Int → Option ((Unit) ⊕ (Int)) := loopF (f74_l0_b x1 x2)
theorem f74_l0_ok (x1 : List Int) (x2 : List Int) (k : Nat) (x3 : Int) {out : ((Unit) ⊕ (Int))} (h : f74_l0 x1 x2 k x3 = some out) : Run Pg 41 (bk1 (sq2 (sq1 (sq2 (sq2 c_74))))) ⟨[(0, .d t66 x1), (1, .d t66 x2), (5, .d t2 x3)], []⟩ (f74_l0_post x1 x2 out) := by
 refine Run.loopN (by kernel_rfl) (fun m s => ∃ x3, s = ⟨[(0, .d t66 x1), (1, .d t66 x2), (5, .d t2 x3)], []⟩ ∧ f74_l0 x1 x2 m x3 = some out) ?_ k ⟨x3,  rfl, h⟩
 rintro m s ⟨x3,  rfl, h⟩
 cases m with
 | zero => cases h
 | succ m =>
 replace h : f74_l0_b x1 x2 (f74_l0 x1 x2 m) x3 = some out := h
 unfold f74_l0_b at h
 refine Run.sq ?_
 refine qN [] 700 ⟨[(0, .d t66 x1), (1, .d t66 x2), (5, .d t2 x3), (20, .d t4 (decide ((0 : Int) ≤ x3)))], []⟩ aN ?_
 refine Run.cd (decide ((0 : Int) ≤ x3)) (fun hb => ?_) (fun hb => ?_)
 ·replace h := bif_t h hb
  refine Run.sk ?_
  show Run Pg 41 _ _ _
  refine Run.sq ?_
  refine Run.bl 1 ?_
  refine Run.sq ?_
  obtain ⟨g_0, h⟩ := gd_elim h
  obtain ⟨g_1, h⟩ := gd_elim h
  obtain ⟨g_2, h⟩ := gd_elim h
  obtain ⟨g_3, h⟩ := gd_elim h
  refine qN [] 900 ⟨[(0, .d t66 x1), (1, .d t66 x2), (5, .d t2 x3), (31, .d t4 (decide ((List.getD x1 (toN x3) (0 : Int)) < (List.getD x2 (toN x3) (0 : Int)))))], []⟩ (aC g_0 (aC g_1 (aC g_2 (aC g_3 aN)))) ?_
  refine Run.cd (decide ((List.getD x1 (toN x3) (0 : Int)) < (List.getD x2 (toN x3) (0 : Int)))) (fun hb => ?_) (fun hb => ?_)
  ·replace h := bif_t h hb
   refine qN [] 1000 ⟨[(4, .d t2 (-1 : Int))], []⟩ aN ?_
   refine Run.rt ?_
   obtain rfl := sI h
   exact ⟨rfl, [(.d t2 (-1 : Int))], by kernel_rfl, by kernel_rfl⟩
  ·replace h := bif_f h hb
   refine Run.sk ?_
   show Run Pg 41 _ _ _
   obtain ⟨g_0, h⟩ := gd_elim h
   obtain ⟨g_1, h⟩ := gd_elim h
   obtain ⟨g_2, h⟩ := gd_elim h
   obtain ⟨g_3, h⟩ := gd_elim h
   refine qN [] 1100 ⟨[(0, .d t66 x1), (1, .d t66 x2), (5, .d t2 x3), (40, .d t4 (decide ((List.getD x2 (toN x3) (0 : Int)) < (List.getD x1 (toN x3) (0 : Int)))))], []⟩ (aC g_0 (aC g_1 (aC g_2 (aC g_3 aN)))) ?_
   refine Run.cd (decide ((List.getD x2 (toN x3) (0 : Int)) < (List.getD x1 (toN x3) (0 : Int)))) (fun hb => ?_) (fun hb => ?_)
   ·replace h := bif_t h hb
    refine qN [] 1200 ⟨[(4, .d t2 (1 : Int))], []⟩ aN ?_
    refine Run.rt ?_
    obtain rfl := sI h
    exact ⟨rfl, [(.d t2 (1 : Int))], by kernel_rfl, by kernel_rfl⟩
   ·replace h := bif_f h hb
    refine Run.sk ?_
    show Run Pg 41 _ _ _
    refine qE [] 800 ⟨[(0, .d t66 x1), (1, .d t66 x2), (5, .d t2 (wrapI .i64 (x3 - (1 : Int))))], []⟩ aN ?_
    exact ⟨m, Nat.lt_succ_self m, _, rfl, h⟩
 ·replace h := bif_f h hb
  refine qK ⟨[], []⟩ ?_
  refine Run.ex 0 ?_
  obtain rfl := sI h
  exact ⟨rfl, by kernel_rfl⟩
def F74 (a0 : List Int) (a1 : List Int) : Option (Int) :=
 (bif ((ofN (List.length a0)) != (ofN (List.length a1))) then
 (bif (decide ((ofN (List.length a0)) < (ofN (List.length a1)))) then
 some (-1 : Int)
 else
 some (1 : Int))
 else
 ((f74_l0 a0 a1 (2 + List.length a0 + List.length a1) (wrapI .i64 ((ofN (List.length a0)) - (1 : Int)))).bind fun o4 => match o4 with
 | .inl o5 =>
 some (0 : Int)
 | .inr o6 =>
 some o6))
theorem c74 {a0 : List Int} {a1 : List Int} {r : Int} (h : F74 a0 a1 = some r) : CallPure Pg 74 [(.d t66 a0), (.d t66 a1)] (.d t2 r) := by
 refine qC c_74 41 [.tmp 4] [3] Go.Proofs.Tryz.func74 ?_
 show Run Pg 41 c_74 ⟨[(0, .d t66 a0), (1, .d t66 a1)], []⟩ (fin74 r)
 unfold F74 at h
 refine qN [] 100 ⟨[(0, .d t66 a0), (1, .d t66 a1)], []⟩ aN ?_
 refine Run.sq ?_
 refine qN [] 200 ⟨[(0, .d t66 a0), (1, .d t66 a1), (10, .d t4 ((ofN (List.length a0)) != (ofN (List.length a1))))], []⟩ aN ?_
 refine Run.cd ((ofN (List.length a0)) != (ofN (List.length a1))) (fun hb => ?_) (fun hb => ?_)
 ·replace h := bif_t h hb
  refine Run.sq ?_
  refine qN [] 300 ⟨[(15, .d t4 (decide ((ofN (List.length a0)) < (ofN (List.length a1)))))], []⟩ aN ?_
  refine Run.cd (decide ((ofN (List.length a0)) < (ofN (List.length a1)))) (fun hb => ?_) (fun hb => ?_)
  ·replace h := bif_t h hb
   refine qN [] 400 ⟨[(4, .d t2 (-1 : Int))], []⟩ aN ?_
   refine Run.rt ?_
   obtain rfl := sI h
   exact qR [(.d t2 (-1 : Int))]
  ·replace h := bif_f h hb
   refine Run.sk ?_
   show Run Pg 41 _ _ _
   refine qN [] 500 ⟨[(4, .d t2 (1 : Int))], []⟩ aN ?_
   refine Run.rt ?_
   obtain rfl := sI h
   exact qR [(.d t2 (1 : Int))]
 ·replace h := bif_f h hb
  refine Run.sk ?_
  show Run Pg 41 _ _ _
  refine Run.sq ?_
  refine qN [] 600 ⟨[(0, .d t66 a0), (1, .d t66 a1), (5, .d t2 (wrapI .i64 ((ofN (List.length a0)) - (1 : Int))))], []⟩ aN ?_
  refine Run.bl 0 ?_
  obtain ⟨o4, h_o4, h⟩ := bnd_elim h
  refine Run.mono (f74_l0_ok a0 a1 _ (wrapI .i64 ((ofN (List.length a0)) - (1 : Int))) h_o4) ?_
  rcases o4 with o5 | o6
  ·rintro _ _ ⟨rfl, rfl⟩
   show Run Pg 41 _ _ _
   refine qN [] 1300 ⟨[(4, .d t2 (0 : Int))], []⟩ aN ?_
   refine Run.rt ?_
   obtain rfl := sI h
   exact qR [(.d t2 (0 : Int))]
  ·rintro _ s ⟨rfl, hr⟩
   obtain rfl := sI h
   exact hr

/-! ## f205 -/
noncomputable def c_205 : Code := body0 Go.Proofs.Tryz.f205
def fin205 (r : (List Int)) : Ex → St → Prop := endK X0 [.tmp 4] [66] (.d t66 r)
def f205_c1_post (x21 : List Int) (x22 : List Int) (x23 : Int) (x24 : Int) (x25 : Bool) (x26 : List Int) : (Int) → Ex → St → Prop
 | o, x, s => x = .nrm ∧ s = ⟨[(0, .d t66 x21), (1, .d t66 x22), (5, .vec 202 t158), (7, .d t2 x23), (8, .d t158 o)], [(202, .vec 158 t158 x26)]⟩
def f205_c1 (x22 : List Int) (x23 : Int) (x24 : Int) (x25 : Bool) : Option (Int) :=
 (bif x25 then
 gd (0 ≤ x23) <|
 gd (x23 < ((List.length x22 : Nat) : Int)) <|
 some (wrapI .u32 (x24 - (List.getD x22 (toN x23) (0 : Int))))
 else
 some x24)
theorem f205_c1_ok (x21 : List Int) (x22 : List Int) (x23 : Int) (x24 : Int) (x25 : Bool) (x26 : List Int) {out : (Int)} (h : f205_c1 x22 x23 x24 x25 = some out) : Run Pg 45 (sq2 (sq1 (sq2 (bk1 (sq1 (sq2 (lp1 (bk1 (sq2 (sq1 (sq2 (sq2 (sq2 c_205))))))))))))) ⟨[(0, .d t66 x21), (1, .d t66 x22), (5, .vec 202 t158), (7, .d t2 x23), (8, .d t158 x24), (28, .d t4 x25)], [(202, .vec 158 t158 x26)]⟩ (f205_c1_post x21 x22 x23 x24 x25 x26 out) := by
 unfold f205_c1 at h
 refine Run.cd x25 (fun hb => ?_) (fun hb => ?_)
 ·replace h := bif_t h hb
  obtain ⟨g_0, h⟩ := gd_elim h
  obtain ⟨g_1, h⟩ := gd_elim h
  refine qE [] 900 ⟨[(0, .d t66 x21), (1, .d t66 x22), (5, .vec 202 t158), (7, .d t2 x23), (8, .d t158 (wrapI .u32 (x24 - (List.getD x22 (toN x23) (0 : Int)))))], [(202, .vec 158 t158 x26)]⟩ (aC g_0 (aC g_1 aN)) ?_
  obtain rfl := sI h
  exact ⟨rfl, by kernel_rfl⟩
 ·replace h := bif_f h hb
  refine qK ⟨[(0, .d t66 x21), (1, .d t66 x22), (5, .vec 202 t158), (7, .d t2 x23), (8, .d t158 x24)], [(202, .vec 158 t158 x26)]⟩ ?_
  refine Run.sk ?_
  obtain rfl := sI h
  exact ⟨rfl, by kernel_rfl⟩
def f205_c2_post (x28 : List Int) (x29 : List Int) (x30 : Int) (x31 : Int) (x32 : Int) (x33 : Bool) (x34 : List Int) : (Int × Int) → Ex → St → Prop
 | o, x, s => x = .nrm ∧ s = ⟨[(0, .d t66 x28), (1, .d t66 x29), (5, .vec 202 t158), (6, .d t158 o.1), (7, .d t2 x31), (8, .d t158 o.2)], [(202, .vec 158 t158 x34)]⟩
def f205_c2 (x30 : Int) (x32 : Int) (x33 : Bool) : Option (Int × Int) :=
 (bif x33 then
 some ((0 : Int), (wrapI .u32 (x32 - (1000000000 : Int))))
 else
 some (x30, x32))
theorem f205_c2_ok (x28 : List Int) (x29 : List Int) (x30 : Int) (x31 : Int) (x32 : Int) (x33 : Bool) (x34 : List Int) {out : (Int × Int)} (h : f205_c2 x30 x32 x33 = some out) : Run Pg 45 (sq2 (sq1 (sq2 (sq2 (sq2 (bk1 (sq1 (sq2 (lp1 (bk1 (sq2 (sq1 (sq2 (sq2 (sq2 c_205))))))))))))))) ⟨[(0, .d t66 x28), (1, .d t66 x29), (5, .vec 202 t158), (6, .d t158 x30), (7, .d t2 x31), (8, .d t158 x32), (36, .d t4 x33)], [(202, .vec 158 t158 x34)]⟩ (f205_c2_post x28 x29 x30 x31 x32 x33 x34 out) := by
 unfold f205_c2 at h
 refine Run.cd x33 (fun hb => ?_) (fun hb => ?_)
 ·replace h := bif_t h hb
  refine qE [] 1200 ⟨[(0, .d t66 x28), (1, .d t66 x29), (5, .vec 202 t158), (6, .d t158 (0 : Int)), (7, .d t2 x31), (8, .d t158 (wrapI .u32 (x32 - (1000000000 : Int))))], [(202, .vec 158 t158 x34)]⟩ aN ?_
  obtain rfl := sI h
  exact ⟨rfl, by kernel_rfl⟩
 ·replace h := bif_f h hb
  refine qK ⟨[(0, .d t66 x28), (1, .d t66 x29), (5, .vec 202 t158), (6, .d t158 x30), (7, .d t2 x31), (8, .d t158 x32)], [(202, .vec 158 t158 x34)]⟩ ?_
  refine Run.sk ?_
  obtain rfl := sI h
  exact ⟨rfl, by kernel_rfl⟩
def f205_l0_post (x1 : List Int) (x2 : List Int) : ((List Int)) → Ex → St → Prop
 | o, x, s => x = .out 0 ∧ s = ⟨[(5, .vec 202 t158)], [(202, .vec 158 t158 o)]⟩
def f205_l0_b (x1 : List Int) (x2 : List Int) (again : Int × Int × (List Int) → Option ((List Int))) : Int × Int × (List Int) → Option ((List Int))
 | (x3, x4, x5) =>
 (bif (decide (x4 < (ofN (List.length x1)))) then
 gd (0 ≤ x4) <|
 gd (x4 < ((List.length x1 : Nat) : Int)) <|
 ((f205_c1 x2 x4 (wrapI .u32 ((wrapI .u32 ((List.getD x1 (toN x4) (0 : Int)) + (1000000000 : Int))) - x3)) (decide (x4 < (ofN (List.length x2))))).bind fun o27 =>
 ((f205_c2 (1 : Int) o27 (decide ((1000000000 : Int) ≤ o27))).bind fun o35 =>
 gd (0 ≤ x4) <|
 gd (x4 < ((List.length x5 : Nat) : Int)) <|
 gd ((toN x4) < List.length x5) <|
 again (o35.1, (wrapI .i64 (x4 + (1 : Int))), (List.set x5 (toN x4) o35.2))))
 else
 some x5)
def f205_l0 (x1 : List Int) (x2 : List Int) : Nat → Int × Int × (List Int) → Option ((List Int)) := loopF (f205_l0_b x1 x2)
theorem f205_l0_ok (x1 : List Int) (x2 : List Int) (k : Nat) (x3 : Int) (x4 : Int) (x5 : List Int) {out : ((List Int))} (h : f205_l0 x1 x2 k (x3, x4, x5) = some out) : Run Pg 45 (bk1 (sq2 (sq1 (sq2 (sq2 (sq2 c_205)))))) ⟨[(0, .d t66 x1), (1, .d t66 x2), (5, .vec 202 t158), (6, .d t158 x3), (7, .d t2 x4)], [(202, .vec 158 t158 x5)]⟩ (f205_l0_post x1 x2 out) := by
 refine Run.loopN (by kernel_rfl) (fun m s => ∃ x3 x4 x5, s = ⟨[(0, .d t66 x1), (1, .d t66 x2), (5, .vec 202 t158), (6, .d t158 x3), (7, .d t2 x4)], [(202, .vec 158 t158 x5)]⟩ ∧ f205_l0 x1 x2 m (x3, x4, x5) = some out) ?_ k ⟨x3, x4, x5,  rfl, h⟩
 rintro m s ⟨x3, x4, x5,  rfl, h⟩
 cases m with
 | zero => cases h
 | succ m =>
 replace h : f205_l0_b x1 x2 (f205_l0 x1 x2 m) (x3, x4, x5) = some out := h
 unfold f205_l0_b at h
 refine Run.sq ?_
 refine qN [] 500 ⟨[(0, .d t66 x1), (1, .d t66 x2), (5, .vec 202 t158), (6, .d t158 x3), (7, .d t2 x4), (15, .d t4 (decide (x4 < (ofN (List.length x1)))))], [(202, .vec 158 t158 x5)]⟩ aN ?_
 refine Run.cd (decide (x4 < (ofN (List.length x1)))) (fun hb => ?_) (fun hb => ?_)
 ·replace h := bif_t h hb
  refine Run.sk ?_
  show Run Pg 45 _ _ _
  refine Run.sq ?_
  refine Run.bl 1 ?_
  obtain ⟨g_0, h⟩ := gd_elim h
  obtain ⟨g_1, h⟩ := gd_elim h
  refine qN [] 700 ⟨[(0, .d t66 x1), (1, .d t66 x2), (5, .vec 202 t158), (7, .d t2 x4), (8, .d t158 (wrapI .u32 ((wrapI .u32 ((List.getD x1 (toN x4) (0 : Int)) + (1000000000 : Int))) - x3)))], [(202, .vec 158 t158 x5)]⟩ (aC g_0 (aC g_1 aN)) ?_
  refine Run.sq ?_
  refine qN [] 800 ⟨[(0, .d t66 x1), (1, .d t66 x2), (5, .vec 202 t158), (7, .d t2 x4), (8, .d t158 (wrapI .u32 ((wrapI .u32 ((List.getD x1 (toN x4) (0 : Int)) + (1000000000 : Int))) - x3))), (28, .d t4 (decide (x4 < (ofN (List.length x2)))))], [(202, .vec 158 t158 x5)]⟩ aN ?_
  obtain ⟨o27, h_o27, h⟩ := bnd_elim h
  refine Run.mono (f205_c1_ok x1 x2 x4 (wrapI .u32 ((wrapI .u32 ((List.getD x1 (toN x4) (0 : Int)) + (1000000000 : Int))) - x3)) (decide (x4 < (ofN (List.length x2)))) x5 h_o27) ?_
  rintro _ _ ⟨rfl, rfl⟩
  show Run Pg 45 _ _ _
  refine qN [] 1000 ⟨[(0, .d t66 x1), (1, .d t66 x2), (5, .vec 202 t158), (6, .d t158 (1 : Int)), (7, .d t2 x4), (8, .d t158 o27)], [(202, .vec 158 t158 x5)]⟩ aN ?_
  refine Run.sq ?_
  refine qN [] 1100 ⟨[(0, .d t66 x1), (1, .d t66 x2), (5, .vec 202 t158), (6, .d t158 (1 : Int)), (7, .d t2 x4), (8, .d t158 o27), (36, .d t4 (decide ((1000000000 : Int) ≤ o27)))], [(202, .vec 158 t158 x5)]⟩ aN ?_
  obtain ⟨o35, h_o35, h⟩ := bnd_elim h
  refine Run.mono (f205_c2_ok x1 x2 (1 : Int) x4 o27 (decide ((1000000000 : Int) ≤ o27)) x5 h_o35) ?_
  rintro _ _ ⟨rfl, rfl⟩
  show Run Pg 45 _ _ _
  obtain ⟨g_0, h⟩ := gd_elim h
  obtain ⟨g_1, h⟩ := gd_elim h
  obtain ⟨g_2, h⟩ := gd_elim h
  refine qE [] 1300 ⟨[(0, .d t66 x1), (1, .d t66 x2), (5, .vec 202 t158), (6, .d t158 o35.1), (7, .d t2 x4)], [(202, .vec 158 t158 (List.set x5 (toN x4) o35.2))]⟩ (aC g_0 (aC g_1 (aC g_2 aN))) ?_
  show Run Pg 45 _ _ _
  refine qE [] 600 ⟨[(0, .d t66 x1), (1, .d t66 x2), (5, .vec 202 t158), (6, .d t158 o35.1), (7, .d t2 (wrapI .i64 (x4 + (1 : Int))))], [(202, .vec 158 t158 (List.set x5 (toN x4) o35.2))]⟩ aN ?_
  exact ⟨m, Nat.lt_succ_self m, _, _, _, rfl, h⟩
 ·replace h := bif_f h hb
  refine qK ⟨[(5, .vec 202 t158)], [(202, .vec 158 t158 x5)]⟩ ?_
  refine Run.ex 0 ?_
  obtain rfl := sI h
  exact ⟨rfl, by kernel_rfl⟩
def F205 (a0 : List Int) (a1 : List Int) : Option ((List Int)) :=
 gd (0 ≤ (ofN (List.length a0))) <|
 gd ((ofN (List.length a0)) ≤ (ofN (List.length a0))) <|
 gd ((ofN (List.length a0)) ≤ 1073741824) <|
 ((f205_l0 a0 a1 (2 + List.length a0 + List.length a1 + List.length (List.replicate (toN (ofN (List.length a0))) (0 : Int))) ((0 : Int), (0 : Int), (List.replicate (toN (ofN (List.length a0))) (0 : Int)))).bind fun o36 =>
 (F120 o36).bind fun y37 =>
 some y37)
theorem c205 {a0 : List Int} {a1 : List Int} {r : (List Int)} (h : F205 a0 a1 = some r) : CallPure Pg 205 [(.d t66 a0), (.d t66 a1)] (.d t66 r) := by
 refine qC c_205 45 [.tmp 4] [66] Go.Proofs.Tryz.func205 ?_
 show Run Pg 45 c_205 ⟨[(0, .d t66 a0), (1, .d t66 a1)], []⟩ (fin205 r)
 unfold F205 at h
 refine qN [] 100 ⟨[(0, .d t66 a0), (1, .d t66 a1)], []⟩ aN ?_
 obtain ⟨g_0, h⟩ := gd_elim h
 obtain ⟨g_1, h⟩ := gd_elim h
 obtain ⟨g_2, h⟩ := gd_elim h
 refine qN [] 200 ⟨[(0, .d t66 a0), (1, .d t66 a1), (5, .vec 202 t158)], [(202, .vec 158 t158 (List.replicate (toN (ofN (List.length a0))) (0 : Int)))]⟩ (aC g_0 (aC g_1 (aC g_2 aN))) ?_
 refine qN [] 300 ⟨[(0, .d t66 a0), (1, .d t66 a1), (5, .vec 202 t158), (6, .d t158 (0 : Int))], [(202, .vec 158 t158 (List.replicate (toN (ofN (List.length a0))) (0 : Int)))]⟩ aN ?_
 refine Run.sq ?_
 refine qN [] 400 ⟨[(0, .d t66 a0), (1, .d t66 a1), (5, .vec 202 t158), (6, .d t158 (0 : Int)), (7, .d t2 (0 : Int))], [(202, .vec 158 t158 (List.replicate (toN (ofN (List.length a0))) (0 : Int)))]⟩ aN ?_
 refine Run.bl 0 ?_
 obtain ⟨o36, h_o36, h⟩ := bnd_elim h
 refine Run.mono (f205_l0_ok a0 a1 _ (0 : Int) (0 : Int) (List.replicate (toN (ofN (List.length a0))) (0 : Int)) h_o36) ?_
 rintro _ _ ⟨rfl, rfl⟩
 show Run Pg 45 _ _ _
 refine Run.freeze (s' := ⟨[(5, .d t66 o36)], []⟩) 202 (by kernel_rfl) ?_
 obtain ⟨y37, h_y37, h⟩ := bnd_elim h
 refine qN [(1, .call (.d t66 y37))] 1400 ⟨[(4, .d t66 y37)], []⟩ (aC (c120 h_y37) aN) ?_
 refine Run.rt ?_
 obtain rfl := sI h
 exact qR [(.d t66 y37)]

/-! ## f169 -/
noncomputable def c_169 : Code := body0 Go.Proofs.Tryz.f169
def fin169 (r : IntL) : Ex → St → Prop := endK X0 [.cell 4 68] [68] (.d t67 r)
def F169 (a0 : IntL) (a1 : IntL) : Option (IntL) :=
 (bif (a0.1 == a1.1) then
 (F206 a0.2 a1.2).bind fun y1 =>
 (F75 a0.1 y1).bind fun y2 =>
 some y2
 else
 (F74 a0.2 a1.2).bind fun y3 =>
 (bif (decide ((0 : Int) ≤ y3)) then
 (F205 a0.2 a1.2).bind fun y4 =>
 (F75 a0.1 y4).bind fun y5 =>
 some y5
 else
 (F205 a1.2 a0.2).bind fun y6 =>
 (F75 a1.1 y6).bind fun y7 =>
 some y7))
theorem c169 {a0 : IntL} {a1 : IntL} {r : IntL} (h : F169 a0 a1 = some r) : CallPure Pg 169 [(.d t67 a0), (.d t67 a1)] (.d t67 r) := by
 refine qC c_169 40 [.cell 4 68] [68] Go.Proofs.Tryz.func169 ?_
 show Run Pg 40 c_169 ⟨[(0, .d t67 a0), (1, .d t67 a1)], []⟩ (fin169 r)
 unfold F169 at h
 refine qN [] 100 ⟨[(2, .ptr 100 0), (3, .ptr 101 0), (4, .ptr 102 0)], [(100, bx 68 t67 a0), (101, bx 68 t67 a1), (102, bx 68 t67 (false, ([] : List Int)))]⟩ aN ?_
 refine Run.sq ?_
 refine qN [] 200 ⟨[(2, .ptr 100 0), (3, .ptr 101 0), (4, .ptr 102 0), (9, .d t4 (a0.1 == a1.1))], [(100, bx 68 t67 a0), (101, bx 68 t67 a1), (102, bx 68 t67 (false, ([] : List Int)))]⟩ aN ?_
 refine Run.cd (a0.1 == a1.1) (fun hb => ?_) (fun hb => ?_)
 ·replace h := bif_t h hb
  obtain ⟨y1, h_y1, h⟩ := bnd_elim h
  obtain ⟨y2, h_y2, h⟩ := bnd_elim h
  refine qN [(6, .call (.d t66 y1)), (7, .call (.d t67 y2))] 300 ⟨[(4, .ptr 102 0)], [(102, bx 68 t67 y2)]⟩ (aC (c206 h_y1) (aC (c75 h_y2) aN)) ?_
  refine Run.rt ?_
  obtain rfl := sI h
  exact qR [(.d t67 y2)]
 ·replace h := bif_f h hb
  refine Run.sk ?_
  show Run Pg 40 _ _ _
  refine Run.sq ?_
  obtain ⟨y3, h_y3, h⟩ := bnd_elim h
  refine qN [(4, .call (.d t2 y3))] 400 ⟨[(2, .ptr 100 0), (3, .ptr 101 0), (4, .ptr 102 0), (23, .d t4 (decide ((0 : Int) ≤ y3)))], [(100, bx 68 t67 a0), (101, bx 68 t67 a1), (102, bx 68 t67 (false, ([] : List Int)))]⟩ (aC (c74 h_y3) aN) ?_
  refine Run.cd (decide ((0 : Int) ≤ y3)) (fun hb => ?_) (fun hb => ?_)
  ·replace h := bif_t h hb
   obtain ⟨y4, h_y4, h⟩ := bnd_elim h
   obtain ⟨y5, h_y5, h⟩ := bnd_elim h
   refine qN [(6, .call (.d t66 y4)), (7, .call (.d t67 y5))] 500 ⟨[(4, .ptr 102 0)], [(102, bx 68 t67 y5)]⟩ (aC (c205 h_y4) (aC (c75 h_y5) aN)) ?_
   refine Run.rt ?_
   obtain rfl := sI h
   exact qR [(.d t67 y5)]
  ·replace h := bif_f h hb
   refine Run.sk ?_
   show Run Pg 40 _ _ _
   obtain ⟨y6, h_y6, h⟩ := bnd_elim h
   obtain ⟨y7, h_y7, h⟩ := bnd_elim h
   refine qN [(6, .call (.d t66 y6)), (7, .call (.d t67 y7))] 600 ⟨[(4, .ptr 102 0)], [(102, bx 68 t67 y7)]⟩ (aC (c205 h_y6) (aC (c75 h_y7) aN)) ?_
   refine Run.rt ?_
   obtain rfl := sI h
   exact qR [(.d t67 y7)]

/-! ## f127 -/
noncomputable def c_127 : Code := body0 Go.Proofs.Tryz.f127
def fin127 (r : Int) : Ex → St → Prop := endK X0 [.tmp 2] [3] (.d t2 r)
def F127 (a0 : IntL) : Option (Int) :=
 (bif ((ofN (List.length a0.2)) == (0 : Int)) then
 some (0 : Int)
 else
 (bif a0.1 then
 some (-1 : Int)
 else
 some (1 : Int)))
theorem c127 {a0 : IntL} {r : Int} (h : F127 a0 = some r) : CallPure Pg 127 [(.d t67 a0)] (.d t2 r) := by
 refine qC c_127 9 [.tmp 2] [3] Go.Proofs.Tryz.func127 ?_
 show Run Pg 9 c_127 ⟨[(0, .d t67 a0)], []⟩ (fin127 r)
 unfold F127 at h
 refine qN [] 100 ⟨[(1, .ptr 100 0)], [(100, bx 68 t67 a0)]⟩ aN ?_
 refine Run.sq ?_
 refine qN [] 200 ⟨[(1, .ptr 100 0), (6, .d t4 ((ofN (List.length a0.2)) == (0 : Int)))], [(100, bx 68 t67 a0)]⟩ aN ?_
 refine Run.cd ((ofN (List.length a0.2)) == (0 : Int)) (fun hb => ?_) (fun hb => ?_)
 ·replace h := bif_t h hb
  refine qN [] 300 ⟨[(2, .d t2 (0 : Int))], []⟩ aN ?_
  refine Run.rt ?_
  obtain rfl := sI h
  exact qR [(.d t2 (0 : Int))]
 ·replace h := bif_f h hb
  refine Run.sk ?_
  show Run Pg 9 _ _ _
  refine Run.sq ?_
  refine qN [] 400 ⟨[(8, .d t4 a0.1)], []⟩ aN ?_
  refine Run.cd a0.1 (fun hb => ?_) (fun hb => ?_)
  ·replace h := bif_t h hb
   refine qN [] 500 ⟨[(2, .d t2 (-1 : Int))], []⟩ aN ?_
   refine Run.rt ?_
   obtain rfl := sI h
   exact qR [(.d t2 (-1 : Int))]
  ·replace h := bif_f h hb
   refine Run.sk ?_
   show Run Pg 9 _ _ _
   refine qN [] 600 ⟨[(2, .d t2 (1 : Int))], []⟩ aN ?_
   refine Run.rt ?_
   obtain rfl := sI h
   exact qR [(.d t2 (1 : Int))]

/-! ## f167 -/
noncomputable def c_167 : Code := body0 Go.Proofs.Tryz.f167
def fin167 (r : Int) : Ex → St → Prop := endK X0 [.tmp 2] [107] (.d t12 r)
def f167_l0_post (x1 : List Int) : (Int) → Ex → St → Prop
 | o, x, s => x = .out 0 ∧ s = ⟨[(3, .d t12 o)], []⟩
def f167_l0_b (x1 : List Int) (again : Int × Int → Option (Int)) : Int × Int → Option (Int)
 | (x2, x3) =>
 (bif (decide ((0 : Int) ≤ x3)) then
 gd (0 ≤ x3) <|
 gd (x3 < ((List.length x1 : Nat) : Int)) <|
 again ((wrapI .u64 ((wrapI .u64 (x2 * (1000000000 : Int))) + (wrapI .u64 (List.getD x1 (toN x3) (0 : Int))))), (wrapI .i64 (x3 - (1 : Int))))
 else
 some x2)
def f167_l0 (x1 : List Int) : Nat → Int × Int → Option (Int) := loopF (f167_l0_b x1)
theorem f167_l0_ok (x1 : List Int) (k : Nat) (x2 : Int) (x3 : Int) {out : (Int)} (h : f167_l0 x1 k (x2, x3) = some out) : Run Pg 21 (bk1 (sq2 (sq1 (sq2 (sq2 c_167))))) ⟨[(0, .d t66 x1), (3, .d t12 x2), (4, .d t2 x3)], []⟩ (f167_l0_post x1 out) := by
 refine Run.loopN (by kernel_rfl) (fun m s => ∃ x2 x3, s = ⟨[(0, .d t66 x1), (3, .d t12 x2), (4, .d t2 x3)], []⟩ ∧ f167_l0 x1 m (x2, x3) = some out) ?_ k ⟨x2, x3,  rfl, h⟩
 rintro m s ⟨x2, x3,  rfl, h⟩
 cases m with
 | zero => cases h
 | succ m =>
 replace h : f167_l0_b x1 (f167_l0 x1 m) (x2, x3) = some out := h
 unfold f167_l0_b at h
 refine Run.sq ?_
 refine qN [] 400 ⟨[(0, .d t66 x1), (3, .d t12 x2), (4, .d t2 x3), (9, .d t4 (decide ((0 : Int) ≤ x3)))], []⟩ aN ?_
 refine Run.cd (decide ((0 : Int) ≤ x3)) (fun hb => ?_) (fun hb => ?_)
 ·replace h := bif_t h hb
  refine Run.sk ?_
  show Run Pg 21 _ _ _
  refine Run.sq ?_
  refine Run.bl 1 ?_
  obtain ⟨g_0, h⟩ := gd_elim h
  obtain ⟨g_1, h⟩ := gd_elim h
  refine qE [] 600 ⟨[(0, .d t66 x1), (3, .d t12 (wrapI .u64 ((wrapI .u64 (x2 * (1000000000 : Int))) + (wrapI .u64 (List.getD x1 (toN x3) (0 : Int)))))), (4, .d t2 x3)], []⟩ (aC g_0 (aC g_1 aN)) ?_
  show Run Pg 21 _ _ _
  refine qE [] 500 ⟨[(0, .d t66 x1), (3, .d t12 (wrapI .u64 ((wrapI .u64 (x2 * (1000000000 : Int))) + (wrapI .u64 (List.getD x1 (toN x3) (0 : Int)))))), (4, .d t2 (wrapI .i64 (x3 - (1 : Int))))], []⟩ aN ?_
  exact ⟨m, Nat.lt_succ_self m, _, _, rfl, h⟩
 ·replace h := bif_f h hb
  refine qK ⟨[(3, .d t12 x2)], []⟩ ?_
  refine Run.ex 0 ?_
  obtain rfl := sI h
  exact ⟨rfl, by kernel_rfl⟩
def F167 (a0 : List Int) : Option (Int) :=
 ((f167_l0 a0 (2 + List.length a0) ((0 : Int), (wrapI .i64 ((ofN (List.length a0)) - (1 : Int))))).bind fun o4 =>
 some o4)
theorem c167 {a0 : List Int} {r : Int} (h : F167 a0 = some r) : CallPure Pg 167 [(.d t66 a0)] (.d t12 r) := by
 refine qC c_167 21 [.tmp 2] [107] Go.Proofs.Tryz.func167 ?_
 show Run Pg 21 c_167 ⟨[(0, .d t66 a0)], []⟩ (fin167 r)
 unfold F167 at h
 refine qN [] 100 ⟨[(0, .d t66 a0)], []⟩ aN ?_
 refine qN [] 200 ⟨[(0, .d t66 a0), (3, .d t12 (0 : Int))], []⟩ aN ?_
 refine Run.sq ?_
 refine qN [] 300 ⟨[(0, .d t66 a0), (3, .d t12 (0 : Int)), (4, .d t2 (wrapI .i64 ((ofN (List.length a0)) - (1 : Int))))], []⟩ aN ?_
 refine Run.bl 0 ?_
 obtain ⟨o4, h_o4, h⟩ := bnd_elim h
 refine Run.mono (f167_l0_ok a0 _ (0 : Int) (wrapI .i64 ((ofN (List.length a0)) - (1 : Int))) h_o4) ?_
 rintro _ _ ⟨rfl, rfl⟩
 show Run Pg 21 _ _ _
 refine qN [] 700 ⟨[(2, .d t12 o4)], []⟩ aN ?_
 refine Run.rt ?_
 obtain rfl := sI h
 exact qR [(.d t12 o4)]

/-! ## f204 -/
noncomputable def c_204 : Code := body0 Go.Proofs.Tryz.f204
def fin204 (r : (List Int)) : Ex → St → Prop := endK X0 [.tmp 4] [66] (.d t66 r)
def F204 (a0 : List Int) (a1 : Int) : Option ((List Int)) :=
 (F120 ([a1] : List Int)).bind fun y1 =>
 (F76 a0 y1).bind fun y2 =>
 some y2
theorem c204 {a0 : List Int} {a1 : Int} {r : (List Int)} (h : F204 a0 a1 = some r) : CallPure Pg 204 [(.d t66 a0), (.d t158 a1)] (.d t66 r) := by
 refine qC c_204 10 [.tmp 4] [66] Go.Proofs.Tryz.func204 ?_
 show Run Pg 10 c_204 ⟨[(0, .d t66 a0), (1, .d t158 a1)], []⟩ (fin204 r)
 unfold F204 at h
 refine qN [] 100 ⟨[(0, .d t66 a0), (1, .d t158 a1)], []⟩ aN ?_
 obtain ⟨y1, h_y1, h⟩ := bnd_elim h
 obtain ⟨y2, h_y2, h⟩ := bnd_elim h
 refine qN [(3, .call (.d t66 y1)), (4, .call (.d t66 y2))] 200 ⟨[(4, .d t66 y2)], []⟩ (aC (c120 h_y1) (aC (c76 h_y2) aN)) ?_
 refine Run.rt ?_
 obtain rfl := sI h
 exact qR [(.d t66 y2)]

/-! ## f166 -/
noncomputable def c_166 : Code := body0 Go.Proofs.Tryz.f166
def fin166 (r : (List Int) × (List Int)) : Ex → St → Prop := endK X0 [.tmp 4, .tmp 5] [66, 66] (.tup (.vcons (.d t66 r.1) (.vcons (.d t66 r.2) .vnil)))
def f166_c1_post (x72 : Int) (x73 : List Int) (x74 : Int) (x75 : List Int) (x76 : Nat) (x77 : Nat) (x78 : List Int) (x79 : Int) (x80 : Int) (x81 : Bool) (x82 : List Int) : (Int) → Ex → St → Prop
 | o, x, s => x = .nrm ∧ s = ⟨[(8, .d t158 x72), (9, .d t66 x73), (10, .d t12 x74), (11, .d t66 x75), (12, .sub 903 t158 x76 x77), (13, .d t66 x78), (14, .d t2 x79), (15, .d t12 o)], [(903, .vec 158 t158 x82)]⟩
def f166_c1 (x73 : List Int) (x75 : List Int) (x80 : Int) (x81 : Bool) : Option (Int) :=
 (bif x81 then
 gd (0 ≤ (ofN (List.length x73))) <|
 gd ((ofN (List.length x73)) < ((List.length x75 : Nat) : Int)) <|
 some (wrapI .u64 ((wrapI .u64 (List.getD x75 (toN (ofN (List.length x73))) (0 : Int))) * (1000000000 : Int)))
 else
 some x80)
theorem f166_c1_ok (x72 : Int) (x73 : List Int) (x74 : Int) (x75 : List Int) (x76 : Nat) (x77 : Nat) (x78 : List Int) (x79 : Int) (x80 : Int) (x81 : Bool) (x82 : List Int) {out : (Int)} (h : f166_c1 x73 x75 x80 x81 = some out) : Run Pg 173 (sq2 (sq1 (sq2 (sq2 (bk1 (sq1 (sq2 (lp1 (bk1 (sq2 (sq1 (sq2 (sq2 (sq2 (sq2 (sq2 (sq2 (sq2 (sq2 (sq2 c_166)))))))))))))))))))) ⟨[(8, .d t158 x72), (9, .d t66 x73), (10, .d t12 x74), (11, .d t66 x75), (12, .sub 903 t158 x76 x77), (13, .d t66 x78), (14, .d t2 x79), (15, .d t12 x80), (91, .d t4 x81)], [(903, .vec 158 t158 x82)]⟩ (f166_c1_post x72 x73 x74 x75 x76 x77 x78 x79 x80 x81 x82 out) := by
 unfold f166_c1 at h
 refine Run.cd x81 (fun hb => ?_) (fun hb => ?_)
 ·replace h := bif_t h hb
  obtain ⟨g_0, h⟩ := gd_elim h
  obtain ⟨g_1, h⟩ := gd_elim h
  refine qE [] 1800 ⟨[(8, .d t158 x72), (9, .d t66 x73), (10, .d t12 x74), (11, .d t66 x75), (12, .sub 903 t158 x76 x77), (13, .d t66 x78), (14, .d t2 x79), (15, .d t12 (wrapI .u64 ((wrapI .u64 (List.getD x75 (toN (ofN (List.length x73))) (0 : Int))) * (1000000000 : Int))))], [(903, .vec 158 t158 x82)]⟩ (aC g_0 (aC g_1 aN)) ?_
  obtain rfl := sI h
  exact ⟨rfl, by kernel_rfl⟩
 ·replace h := bif_f h hb
  refine qK ⟨[(8, .d t158 x72), (9, .d t66 x73), (10, .d t12 x74), (11, .d t66 x75), (12, .sub 903 t158 x76 x77), (13, .d t66 x78), (14, .d t2 x79), (15, .d t12 x80)], [(903, .vec 158 t158 x82)]⟩ ?_
  refine Run.sk ?_
  obtain rfl := sI h
  exact ⟨rfl, by kernel_rfl⟩
def f166_c2_post (x84 : Int) (x85 : List Int) (x86 : Int) (x87 : List Int) (x88 : Nat) (x89 : Nat) (x90 : List Int) (x91 : Int) (x92 : Int) (x93 : Bool) (x94 : List Int) : (Int) → Ex → St → Prop
 | o, x, s => x = .nrm ∧ s = ⟨[(8, .d t158 x84), (9, .d t66 x85), (10, .d t12 x86), (11, .d t66 x87), (12, .sub 903 t158 x88 x89), (13, .d t66 x90), (14, .d t2 x91), (15, .d t12 o)], [(903, .vec 158 t158 x94)]⟩
def f166_c2 (x85 : List Int) (x87 : List Int) (x92 : Int) (x93 : Bool) : Option (Int) :=
 (bif x93 then
 gd (0 ≤ (wrapI .i64 ((ofN (List.length x85)) - (1 : Int)))) <|
 gd ((wrapI .i64 ((ofN (List.length x85)) - (1 : Int))) < ((List.length x87 : Nat) : Int)) <|
 some (wrapI .u64 (x92 + (wrapI .u64 (List.getD x87 (toN (wrapI .i64 ((ofN (List.length x85)) - (1 : Int)))) (0 : Int)))))
 else
 some x92)
theorem f166_c2_ok (x84 : Int) (x85 : List Int) (x86 : Int) (x87 : List Int) (x88 : Nat) (x89 : Nat) (x90 : List Int) (x91 : Int) (x92 : Int) (x93 : Bool) (x94 : List Int) {out : (Int)} (h : f166_c2 x85 x87 x92 x93 = some out) : Run Pg 173 (sq2 (sq1 (sq2 (sq2 (sq2 (bk1 (sq1 (sq2 (lp1 (bk1 (sq2 (sq1 (sq2 (sq2 (sq2 (sq2 (sq2 (sq2 (sq2 (sq2 (sq2 c_166))))))))))))))))))))) ⟨[(8, .d t158 x84), (9, .d t66 x85), (10, .d t12 x86), (11, .d t66 x87), (12, .sub 903 t158 x88 x89), (13, .d t66 x90), (14, .d t2 x91), (15, .d t12 x92), (103, .d t4 x93)], [(903, .vec 158 t158 x94)]⟩ (f166_c2_post x84 x85 x86 x87 x88 x89 x90 x91 x92 x93 x94 out) := by
 unfold f166_c2 at h
 refine Run.cd x93 (fun hb => ?_) (fun hb => ?_)
 ·replace h := bif_t h hb
  obtain ⟨g_0, h⟩ := gd_elim h
  obtain ⟨g_1, h⟩ := gd_elim h
  refine qE [] 2000 ⟨[(8, .d t158 x84), (9, .d t66 x85), (10, .d t12 x86), (11, .d t66 x87), (12, .sub 903 t158 x88 x89), (13, .d t66 x90), (14, .d t2 x91), (15, .d t12 (wrapI .u64 (x92 + (wrapI .u64 (List.getD x87 (toN (wrapI .i64 ((ofN (List.length x85)) - (1 : Int)))) (0 : Int))))))], [(903, .vec 158 t158 x94)]⟩ (aC g_0 (aC g_1 aN)) ?_
  obtain rfl := sI h
  exact ⟨rfl, by kernel_rfl⟩
 ·replace h := bif_f h hb
  refine qK ⟨[(8, .d t158 x84), (9, .d t66 x85), (10, .d t12 x86), (11, .d t66 x87), (12, .sub 903 t158 x88 x89), (13, .d t66 x90), (14, .d t2 x91), (15, .d t12 x92)], [(903, .vec 158 t158 x94)]⟩ ?_
  refine Run.sk ?_
  obtain rfl := sI h
  exact ⟨rfl, by kernel_rfl⟩
def f166_c3_post (x96 : Int) (x97 : List Int) (x98 : Int) (x99 : List Int) (x100 : Nat) (x101 : Nat) (x102 : List Int) (x103 : Int) (x104 : Int) (x105 : Bool) (x106 : List Int) : (Int) → Ex → St → Prop
 | o, x, s => x = .nrm ∧ s = ⟨[(8, .d t158 x96), (9, .d t66 x97), (10, .d t12 x98), (11, .d t66 x99), (12, .sub 903 t158 x100 x101), (13, .d t66 x102), (14, .d t2 x103), (16, .d t12 o)], [(903, .vec 158 t158 x106)]⟩
def f166_c3 (x104 : Int) (x105 : Bool) : Option (Int) :=
 (bif x105 then
 some (999999999 : Int)
 else
 some x104)
theorem f166_c3_ok (x96 : Int) (x97 : List Int) (x98 : Int) (x99 : List Int) (x100 : Nat) (x101 : Nat) (x102 : List Int) (x103 : Int) (x104 : Int) (x105 : Bool) (x106 : List Int) {out : (Int)} (h : f166_c3 x104 x105 = some out) : Run Pg 173 (sq2 (sq1 (sq2 (sq2 (sq2 (sq2 (sq2 (bk1 (sq1 (sq2 (lp1 (bk1 (sq2 (sq1 (sq2 (sq2 (sq2 (sq2 (sq2 (sq2 (sq2 (sq2 (sq2 c_166))))))))))))))))))))))) ⟨[(8, .d t158 x96), (9, .d t66 x97), (10, .d t12 x98), (11, .d t66 x99), (12, .sub 903 t158 x100 x101), (13, .d t66 x102), (14, .d t2 x103), (16, .d t12 x104), (117, .d t4 x105)], [(903, .vec 158 t158 x106)]⟩ (f166_c3_post x96 x97 x98 x99 x100 x101 x102 x103 x104 x105 x106 out) := by
 unfold f166_c3 at h
 refine Run.cd x105 (fun hb => ?_) (fun hb => ?_)
 ·replace h := bif_t h hb
  refine qE [] 2300 ⟨[(8, .d t158 x96), (9, .d t66 x97), (10, .d t12 x98), (11, .d t66 x99), (12, .sub 903 t158 x100 x101), (13, .d t66 x102), (14, .d t2 x103), (16, .d t12 (999999999 : Int))], [(903, .vec 158 t158 x106)]⟩ aN ?_
  obtain rfl := sI h
  exact ⟨rfl, by kernel_rfl⟩
 ·replace h := bif_f h hb
  refine qK ⟨[(8, .d t158 x96), (9, .d t66 x97), (10, .d t12 x98), (11, .d t66 x99), (12, .sub 903 t158 x100 x101), (13, .d t66 x102), (14, .d t2 x103), (16, .d t12 x104)], [(903, .vec 158 t158 x106)]⟩ ?_
  refine Run.sk ?_
  obtain rfl := sI h
  exact ⟨rfl, by kernel_rfl⟩
def f166_l4_post (x109 : Int) (x110 : List Int) (x111 : Int) (x112 : List Int) (x113 : Nat) (x114 : Nat) (x115 : List Int) (x116 : Int) (x119 : List Int) : (Int × (List Int)) → Ex → St → Prop
 | o, x, s => x = .out 2 ∧ s = ⟨[(8, .d t158 x109), (9, .d t66 x110), (10, .d t12 x111), (11, .d t66 x112), (12, .sub 903 t158 x113 x114), (13, .d t66 x115), (14, .d t2 x116), (16, .d t12 o.1), (17, .d t66 o.2)], [(903, .vec 158 t158 x119)]⟩
def f166_l4_b (x110 : List Int) (x112 : List Int) (again : Int × (List Int) → Option (Int × (List Int))) : Int × (List Int) → Option (Int × (List Int))
 | (x117, x118) =>
 (F74 x118 x112).bind fun y122 =>
 (bif (decide ((0 : Int) < y122)) then
 (F205 x118 x110).bind fun y123 =>
 again ((wrapI .u64 (x117 - (1 : Int))), y123)
 else
 some (x117, x118))
def f166_l4 (x110 : List Int) (x112 : List Int) : Nat → Int × (List Int) → Option (Int × (List Int)) := loopF (f166_l4_b x110 x112)
theorem f166_l4_ok (x109 : Int) (x110 : List Int) (x111 : Int) (x112 : List Int) (x113 : Nat) (x114 : Nat) (x115 : List Int) (x116 : Int) (x119 : List Int) (k : Nat) (x117 : Int) (x118 : List Int) {out : (Int × (List Int))} (h : f166_l4 x110 x112 k (x117, x118) = some out) : Run Pg 173 (bk1 (sq1 (sq2 (sq2 (sq2 (sq2 (sq2 (sq2 (sq2 (bk1 (sq1 (sq2 (lp1 (bk1 (sq2 (sq1 (sq2 (sq2 (sq2 (sq2 (sq2 (sq2 (sq2 (sq2 (sq2 c_166))))))))))))))))))))))))) ⟨[(8, .d t158 x109), (9, .d t66 x110), (10, .d t12 x111), (11, .d t66 x112), (12, .sub 903 t158 x113 x114), (13, .d t66 x115), (14, .d t2 x116), (16, .d t12 x117), (17, .d t66 x118)], [(903, .vec 158 t158 x119)]⟩ (f166_l4_post x109 x110 x111 x112 x113 x114 x115 x116 x119 out) := by
 refine Run.loopN (by kernel_rfl) (fun m s => ∃ x117 x118, s = ⟨[(8, .d t158 x109), (9, .d t66 x110), (10, .d t12 x111), (11, .d t66 x112), (12, .sub 903 t158 x113 x114), (13, .d t66 x115), (14, .d t2 x116), (16, .d t12 x117), (17, .d t66 x118)], [(903, .vec 158 t158 x119)]⟩ ∧ f166_l4 x110 x112 m (x117, x118) = some out) ?_ k ⟨x117, x118,  rfl, h⟩
 rintro m s ⟨x117, x118,  rfl, h⟩
 cases m with
 | zero => cases h
 | succ m =>
 replace h : f166_l4_b x110 x112 (f166_l4 x110 x112 m) (x117, x118) = some out := h
 unfold f166_l4_b at h
 refine Run.sq ?_
 obtain ⟨y122, h_y122, h⟩ := bnd_elim h
 refine qN [(2, .call (.d t2 y122))] 2500 ⟨[(8, .d t158 x109), (9, .d t66 x110), (10, .d t12 x111), (11, .d t66 x112), (12, .sub 903 t158 x113 x114), (13, .d t66 x115), (14, .d t2 x116), (16, .d t12 x117), (17, .d t66 x118), (125, .d t4 (decide ((0 : Int) < y122)))], [(903, .vec 158 t158 x119)]⟩ (aC (c74 h_y122) aN) ?_
 refine Run.cd (decide ((0 : Int) < y122)) (fun hb => ?_) (fun hb => ?_)
 ·replace h := bif_t h hb
  refine Run.sk ?_
  show Run Pg 173 _ _ _
  refine Run.bl 3 ?_
  refine qN [] 2600 ⟨[(8, .d t158 x109), (9, .d t66 x110), (10, .d t12 x111), (11, .d t66 x112), (12, .sub 903 t158 x113 x114), (13, .d t66 x115), (14, .d t2 x116), (16, .d t12 (wrapI .u64 (x117 - (1 : Int)))), (17, .d t66 x118)], [(903, .vec 158 t158 x119)]⟩ aN ?_
  obtain ⟨y123, h_y123, h⟩ := bnd_elim h
  refine qE [(2, .call (.d t66 y123))] 2700 ⟨[(8, .d t158 x109), (9, .d t66 x110), (10, .d t12 x111), (11, .d t66 x112), (12, .sub 903 t158 x113 x114), (13, .d t66 x115), (14, .d t2 x116), (16, .d t12 (wrapI .u64 (x117 - (1 : Int)))), (17, .d t66 y123)], [(903, .vec 158 t158 x119)]⟩ (aC (c205 h_y123) aN) ?_
  exact ⟨m, Nat.lt_succ_self m, _, _, rfl, h⟩
 ·replace h := bif_f h hb
  refine qK ⟨[(8, .d t158 x109), (9, .d t66 x110), (10, .d t12 x111), (11, .d t66 x112), (12, .sub 903 t158 x113 x114), (13, .d t66 x115), (14, .d t2 x116), (16, .d t12 x117), (17, .d t66 x118)], [(903, .vec 158 t158 x119)]⟩ ?_
  refine Run.ex 2 ?_
  obtain rfl := sI h
  exact ⟨rfl, by kernel_rfl⟩
def f166_l0_post (x7 : Int) (x8 : List Int) (x9 : Int) (x11 : Nat) (x12 : Nat) (x13 : List Int) : ((List Int) × (List Int)) → Ex → St → Prop
 | o, x, s => x = .out 0 ∧ s = ⟨[(8, .d t158 x7), (11, .d t66 o.1), (12, .sub 903 t158 x11 x12)], [(903, .vec 158 t158 o.2)]⟩
def f166_l0_b (x8 : List Int) (x9 : Int) (x11 : Nat) (x12 : Nat) (x13 : List Int) (again : (List Int) × Int × (List Int) → Option ((List Int) × (List Int))) : (List Int) × Int × (List Int) → Option ((List Int) × (List Int))
 | (x10, x14, x15) =>
 (bif (decide ((0 : Int) ≤ x14)) then
 gd (0 ≤ x14) <|
 gd (x14 < ((List.length x13 : Nat) : Int)) <|
 gd (List.length (([(List.getD x13 (toN x14) (0 : Int))] : List Int) ++ x10) ≤ 1073741824) <|
 (F120 (([(List.getD x13 (toN x14) (0 : Int))] : List Int) ++ x10)).bind fun y71 =>
 ((f166_c1 x8 y71 (0 : Int) (decide ((ofN (List.length x8)) < (ofN (List.length y71))))).bind fun o83 =>
 ((f166_c2 x8 y71 o83 (decide ((ofN (List.length x8)) ≤ (ofN (List.length y71))))).bind fun o95 =>
 gd (x9 ≠ 0) <|
 ((f166_c3 (wrapI .u64 (Int.tdiv o95 x9)) (decide ((999999999 : Int) < (wrapI .u64 (Int.tdiv o95 x9))))).bind fun o107 =>
 (F204 x8 (wrapI .u32 o107)).bind fun y108 =>
 ((f166_l4 x8 y71 (2 + List.length x8 + List.length y71 + List.length x13 + List.length x15 + List.length y108) (o107, y108)).bind fun o124 =>
 (F205 y71 o124.2).bind fun y125 =>
 gd (0 ≤ x14) <|
 gd (x14 < ((x12 : Nat) : Int)) <|
 gd ((x11 + toN x14) < List.length x15) <|
 again (y125, (wrapI .i64 (x14 - (1 : Int))), (List.set x15 (x11 + toN x14) (wrapI .u32 o124.1)))))))
 else
 some (x10, x15))
def f166_l0 (x8 : List Int) (x9 : Int) (x11 : Nat) (x12 : Nat) (x13 : List Int) : Nat → (List Int) × Int × (List Int) → Option ((List Int) × (List Int)) := loopF (f166_l0_b x8 x9 x11 x12 x13)
theorem f166_l0_ok (x7 : Int) (x8 : List Int) (x9 : Int) (x11 : Nat) (x12 : Nat) (x13 : List Int) (k : Nat) (x10 : List Int) (x14 : Int) (x15 : List Int) {out : ((List Int) × (List Int))} (h : f166_l0 x8 x9 x11 x12 x13 k (x10, x14, x15) = some out) : Run Pg 173 (bk1 (sq2 (sq1 (sq2 (sq2 (sq2 (sq2 (sq2 (sq2 (sq2 (sq2 (sq2 c_166)))))))))))) ⟨[(8, .d t158 x7), (9, .d t66 x8), (10, .d t12 x9), (11, .d t66 x10), (12, .sub 903 t158 x11 x12), (13, .d t66 x13), (14, .d t2 x14)], [(903, .vec 158 t158 x15)]⟩ (f166_l0_post x7 x8 x9 x11 x12 x13 out) := by
 refine Run.loopN (by kernel_rfl) (fun m s => ∃ x10 x14 x15, s = ⟨[(8, .d t158 x7), (9, .d t66 x8), (10, .d t12 x9), (11, .d t66 x10), (12, .sub 903 t158 x11 x12), (13, .d t66 x13), (14, .d t2 x14)], [(903, .vec 158 t158 x15)]⟩ ∧ f166_l0 x8 x9 x11 x12 x13 m (x10, x14, x15) = some out) ?_ k ⟨x10, x14, x15,  rfl, h⟩
 rintro m s ⟨x10, x14, x15,  rfl, h⟩
 cases m with
 | zero => cases h
 | succ m =>
 replace h : f166_l0_b x8 x9 x11 x12 x13 (f166_l0 x8 x9 x11 x12 x13 m) (x10, x14, x15) = some out := h
 unfold f166_l0_b at h
 refine Run.sq ?_
 refine qN [] 1300 ⟨[(8, .d t158 x7), (9, .d t66 x8), (10, .d t12 x9), (11, .d t66 x10), (12, .sub 903 t158 x11 x12), (13, .d t66 x13), (14, .d t2 x14), (76, .d t4 (decide ((0 : Int) ≤ x14)))], [(903, .vec 158 t158 x15)]⟩ aN ?_
 refine Run.cd (decide ((0 : Int) ≤ x14)) (fun hb => ?_) (fun hb => ?_)
 ·replace h := bif_t h hb
  refine Run.sk ?_
  show Run Pg 173 _ _ _
  refine Run.sq ?_
  refine Run.bl 1 ?_
  obtain ⟨g_0, h⟩ := gd_elim h
  obtain ⟨g_1, h⟩ := gd_elim h
  obtain ⟨g_2, h⟩ := gd_elim h
  obtain ⟨y71, h_y71, h⟩ := bnd_elim h
  refine qN [(4, .own), (6, .part), (7, .call (.d t66 y71))] 1500 ⟨[(8, .d t158 x7), (9, .d t66 x8), (10, .d t12 x9), (11, .d t66 y71), (12, .sub 903 t158 x11 x12), (13, .d t66 x13), (14, .d t2 x14)], [(903, .vec 158 t158 x15)]⟩ (aC g_0 (aC g_1 (aC g_2 (aC (c120 h_y71) aN)))) ?_
  refine qN [] 1600 ⟨[(8, .d t158 x7), (9, .d t66 x8), (10, .d t12 x9), (11, .d t66 y71), (12, .sub 903 t158 x11 x12), (13, .d t66 x13), (14, .d t2 x14), (15, .d t12 (0 : Int))], [(903, .vec 158 t158 x15)]⟩ aN ?_
  refine Run.sq ?_
  refine qN [] 1700 ⟨[(8, .d t158 x7), (9, .d t66 x8), (10, .d t12 x9), (11, .d t66 y71), (12, .sub 903 t158 x11 x12), (13, .d t66 x13), (14, .d t2 x14), (15, .d t12 (0 : Int)), (91, .d t4 (decide ((ofN (List.length x8)) < (ofN (List.length y71)))))], [(903, .vec 158 t158 x15)]⟩ aN ?_
  obtain ⟨o83, h_o83, h⟩ := bnd_elim h
  refine Run.mono (f166_c1_ok x7 x8 x9 y71 x11 x12 x13 x14 (0 : Int) (decide ((ofN (List.length x8)) < (ofN (List.length y71)))) x15 h_o83) ?_
  rintro _ _ ⟨rfl, rfl⟩
  show Run Pg 173 _ _ _
  refine Run.sq ?_
  refine qN [] 1900 ⟨[(8, .d t158 x7), (9, .d t66 x8), (10, .d t12 x9), (11, .d t66 y71), (12, .sub 903 t158 x11 x12), (13, .d t66 x13), (14, .d t2 x14), (15, .d t12 o83), (103, .d t4 (decide ((ofN (List.length x8)) ≤ (ofN (List.length y71)))))], [(903, .vec 158 t158 x15)]⟩ aN ?_
  obtain ⟨o95, h_o95, h⟩ := bnd_elim h
  refine Run.mono (f166_c2_ok x7 x8 x9 y71 x11 x12 x13 x14 o83 (decide ((ofN (List.length x8)) ≤ (ofN (List.length y71)))) x15 h_o95) ?_
  rintro _ _ ⟨rfl, rfl⟩
  show Run Pg 173 _ _ _
  obtain ⟨g_0, h⟩ := gd_elim h
  refine qN [] 2100 ⟨[(8, .d t158 x7), (9, .d t66 x8), (10, .d t12 x9), (11, .d t66 y71), (12, .sub 903 t158 x11 x12), (13, .d t66 x13), (14, .d t2 x14), (16, .d t12 (wrapI .u64 (Int.tdiv o95 x9)))], [(903, .vec 158 t158 x15)]⟩ (aC g_0 aN) ?_
  refine Run.sq ?_
  refine qN [] 2200 ⟨[(8, .d t158 x7), (9, .d t66 x8), (10, .d t12 x9), (11, .d t66 y71), (12, .sub 903 t158 x11 x12), (13, .d t66 x13), (14, .d t2 x14), (16, .d t12 (wrapI .u64 (Int.tdiv o95 x9))), (117, .d t4 (decide ((999999999 : Int) < (wrapI .u64 (Int.tdiv o95 x9)))))], [(903, .vec 158 t158 x15)]⟩ aN ?_
  obtain ⟨o107, h_o107, h⟩ := bnd_elim h
  refine Run.mono (f166_c3_ok x7 x8 x9 y71 x11 x12 x13 x14 (wrapI .u64 (Int.tdiv o95 x9)) (decide ((999999999 : Int) < (wrapI .u64 (Int.tdiv o95 x9)))) x15 h_o107) ?_
  rintro _ _ ⟨rfl, rfl⟩
  show Run Pg 173 _ _ _
  obtain ⟨y108, h_y108, h⟩ := bnd_elim h
  refine qN [(3, .call (.d t66 y108))] 2400 ⟨[(8, .d t158 x7), (9, .d t66 x8), (10, .d t12 x9), (11, .d t66 y71), (12, .sub 903 t158 x11 x12), (13, .d t66 x13), (14, .d t2 x14), (16, .d t12 o107), (17, .d t66 y108)], [(903, .vec 158 t158 x15)]⟩ (aC (c204 h_y108) aN) ?_
  refine Run.sq ?_
  refine Run.bl 2 ?_
  obtain ⟨o124, h_o124, h⟩ := bnd_elim h
  refine Run.mono (f166_l4_ok x7 x8 x9 y71 x11 x12 x13 x14 x15 _ o107 y108 h_o124) ?_
  rintro _ _ ⟨rfl, rfl⟩
  show Run Pg 173 _ _ _
  obtain ⟨y125, h_y125, h⟩ := bnd_elim h
  refine qN [(2, .call (.d t66 y125))] 2800 ⟨[(8, .d t158 x7), (9, .d t66 x8), (10, .d t12 x9), (11, .d t66 y125), (12, .sub 903 t158 x11 x12), (13, .d t66 x13), (14, .d t2 x14), (16, .d t12 o124.1)], [(903, .vec 158 t158 x15)]⟩ (aC (c205 h_y125) aN) ?_
  obtain ⟨g_0, h⟩ := gd_elim h
  obtain ⟨g_1, h⟩ := gd_elim h
  obtain ⟨g_2, h⟩ := gd_elim h
  refine qE [] 2900 ⟨[(8, .d t158 x7), (9, .d t66 x8), (10, .d t12 x9), (11, .d t66 y125), (12, .sub 903 t158 x11 x12), (13, .d t66 x13), (14, .d t2 x14)], [(903, .vec 158 t158 (List.set x15 (x11 + toN x14) (wrapI .u32 o124.1)))]⟩ (aC g_0 (aC g_1 (aC g_2 aN))) ?_
  show Run Pg 173 _ _ _
  refine qE [] 1400 ⟨[(8, .d t158 x7), (9, .d t66 x8), (10, .d t12 x9), (11, .d t66 y125), (12, .sub 903 t158 x11 x12), (13, .d t66 x13), (14, .d t2 (wrapI .i64 (x14 - (1 : Int))))], [(903, .vec 158 t158 (List.set x15 (x11 + toN x14) (wrapI .u32 o124.1)))]⟩ aN ?_
  exact ⟨m, Nat.lt_succ_self m, _, _, _, rfl, h⟩
 ·replace h := bif_f h hb
  refine qK ⟨[(8, .d t158 x7), (11, .d t66 x10), (12, .sub 903 t158 x11 x12)], [(903, .vec 158 t158 x15)]⟩ ?_
  refine Run.ex 0 ?_
  obtain rfl := sI h
  exact ⟨rfl, by kernel_rfl⟩
def f166_l5_post (x127 : Int) (x128 : List Int) (x129 : Nat) (x130 : Nat) (x133 : List Int) : ((List Int)) → Ex → St → Prop
 | o, x, s => x = .out 4 ∧ s = ⟨[(12, .sub 903 t158 x129 x130), (19, .vec 3102 t158)], [(903, .vec 158 t158 x133), (3102, .vec 158 t158 o)]⟩
def f166_l5_b (x127 : Int) (x128 : List Int) (again : Int × Int × (List Int) → Option ((List Int))) : Int × Int × (List Int) → Option ((List Int))
 | (x131, x132, x134) =>
 (bif (decide ((0 : Int) ≤ x132)) then
 gd (0 ≤ x132) <|
 gd (x132 < ((List.length x128 : Nat) : Int)) <|
 gd ((wrapI .u64 x127) ≠ 0) <|
 gd (0 ≤ x132) <|
 gd (x132 < ((List.length x134 : Nat) : Int)) <|
 gd ((toN x132) < List.length x134) <|
 gd ((wrapI .u64 x127) ≠ 0) <|
 again ((Int.tmod (wrapI .u64 ((wrapI .u64 (x131 * (1000000000 : Int))) + (wrapI .u64 (List.getD x128 (toN x132) (0 : Int))))) (wrapI .u64 x127)), (wrapI .i64 (x132 - (1 : Int))), (List.set x134 (toN x132) (wrapI .u32 (wrapI .u64 (Int.tdiv (wrapI .u64 ((wrapI .u64 (x131 * (1000000000 : Int))) + (wrapI .u64 (List.getD x128 (toN x132) (0 : Int))))) (wrapI .u64 x127))))))
 else
 some x134)
def f166_l5 (x127 : Int) (x128 : List Int) : Nat → Int × Int × (List Int) → Option ((List Int)) := loopF (f166_l5_b x127 x128)
theorem f166_l5_ok (x127 : Int) (x128 : List Int) (x129 : Nat) (x130 : Nat) (x133 : List Int) (k : Nat) (x131 : Int) (x132 : Int) (x134 : List Int) {out : ((List Int))} (h : f166_l5 x127 x128 k (x131, x132, x134) = some out) : Run Pg 173 (bk1 (sq2 (sq1 (sq2 (sq2 (sq2 (sq2 (sq2 (sq2 (sq2 (sq2 (sq2 (sq2 (sq2 (sq2 c_166))))))))))))))) ⟨[(8, .d t158 x127), (11, .d t66 x128), (12, .sub 903 t158 x129 x130), (18, .d t12 x131), (19, .vec 3102 t158), (20, .d t2 x132)], [(903, .vec 158 t158 x133), (3102, .vec 158 t158 x134)]⟩ (f166_l5_post x127 x128 x129 x130 x133 out) := by
 refine Run.loopN (by kernel_rfl) (fun m s => ∃ x131 x132 x134, s = ⟨[(8, .d t158 x127), (11, .d t66 x128), (12, .sub 903 t158 x129 x130), (18, .d t12 x131), (19, .vec 3102 t158), (20, .d t2 x132)], [(903, .vec 158 t158 x133), (3102, .vec 158 t158 x134)]⟩ ∧ f166_l5 x127 x128 m (x131, x132, x134) = some out) ?_ k ⟨x131, x132, x134,  rfl, h⟩
 rintro m s ⟨x131, x132, x134,  rfl, h⟩
 cases m with
 | zero => cases h
 | succ m =>
 replace h : f166_l5_b x127 x128 (f166_l5 x127 x128 m) (x131, x132, x134) = some out := h
 unfold f166_l5_b at h
 refine Run.sq ?_
 refine qN [] 3300 ⟨[(8, .d t158 x127), (11, .d t66 x128), (12, .sub 903 t158 x129 x130), (18, .d t12 x131), (19, .vec 3102 t158), (20, .d t2 x132), (146, .d t4 (decide ((0 : Int) ≤ x132)))], [(903, .vec 158 t158 x133), (3102, .vec 158 t158 x134)]⟩ aN ?_
 refine Run.cd (decide ((0 : Int) ≤ x132)) (fun hb => ?_) (fun hb => ?_)
 ·replace h := bif_t h hb
  refine Run.sk ?_
  show Run Pg 173 _ _ _
  refine Run.sq ?_
  refine Run.bl 5 ?_
  obtain ⟨g_0, h⟩ := gd_elim h
  obtain ⟨g_1, h⟩ := gd_elim h
  refine qN [] 3500 ⟨[(8, .d t158 x127), (11, .d t66 x128), (12, .sub 903 t158 x129 x130), (18, .d t12 (wrapI .u64 ((wrapI .u64 (x131 * (1000000000 : Int))) + (wrapI .u64 (List.getD x128 (toN x132) (0 : Int)))))), (19, .vec 3102 t158), (20, .d t2 x132)], [(903, .vec 158 t158 x133), (3102, .vec 158 t158 x134)]⟩ (aC g_0 (aC g_1 aN)) ?_
  obtain ⟨g_0, h⟩ := gd_elim h
  obtain ⟨g_1, h⟩ := gd_elim h
  obtain ⟨g_2, h⟩ := gd_elim h
  obtain ⟨g_3, h⟩ := gd_elim h
  refine qN [] 3600 ⟨[(8, .d t158 x127), (11, .d t66 x128), (12, .sub 903 t158 x129 x130), (18, .d t12 (wrapI .u64 ((wrapI .u64 (x131 * (1000000000 : Int))) + (wrapI .u64 (List.getD x128 (toN x132) (0 : Int)))))), (19, .vec 3102 t158), (20, .d t2 x132)], [(903, .vec 158 t158 x133), (3102, .vec 158 t158 (List.set x134 (toN x132) (wrapI .u32 (wrapI .u64 (Int.tdiv (wrapI .u64 ((wrapI .u64 (x131 * (1000000000 : Int))) + (wrapI .u64 (List.getD x128 (toN x132) (0 : Int))))) (wrapI .u64 x127))))))]⟩ (aC g_0 (aC g_1 (aC g_2 (aC g_3 aN)))) ?_
  obtain ⟨g_0, h⟩ := gd_elim h
  refine qE [] 3700 ⟨[(8, .d t158 x127), (11, .d t66 x128), (12, .sub 903 t158 x129 x130), (18, .d t12 (Int.tmod (wrapI .u64 ((wrapI .u64 (x131 * (1000000000 : Int))) + (wrapI .u64 (List.getD x128 (toN x132) (0 : Int))))) (wrapI .u64 x127))), (19, .vec 3102 t158), (20, .d t2 x132)], [(903, .vec 158 t158 x133), (3102, .vec 158 t158 (List.set x134 (toN x132) (wrapI .u32 (wrapI .u64 (Int.tdiv (wrapI .u64 ((wrapI .u64 (x131 * (1000000000 : Int))) + (wrapI .u64 (List.getD x128 (toN x132) (0 : Int))))) (wrapI .u64 x127))))))]⟩ (aC g_0 aN) ?_
  show Run Pg 173 _ _ _
  refine qE [] 3400 ⟨[(8, .d t158 x127), (11, .d t66 x128), (12, .sub 903 t158 x129 x130), (18, .d t12 (Int.tmod (wrapI .u64 ((wrapI .u64 (x131 * (1000000000 : Int))) + (wrapI .u64 (List.getD x128 (toN x132) (0 : Int))))) (wrapI .u64 x127))), (19, .vec 3102 t158), (20, .d t2 (wrapI .i64 (x132 - (1 : Int))))], [(903, .vec 158 t158 x133), (3102, .vec 158 t158 (List.set x134 (toN x132) (wrapI .u32 (wrapI .u64 (Int.tdiv (wrapI .u64 ((wrapI .u64 (x131 * (1000000000 : Int))) + (wrapI .u64 (List.getD x128 (toN x132) (0 : Int))))) (wrapI .u64 x127))))))]⟩ aN ?_
  exact ⟨m, Nat.lt_succ_self m, _, _, _, rfl, h⟩
 ·replace h := bif_f h hb
  refine qK ⟨[(12, .sub 903 t158 x129 x130), (19, .vec 3102 t158)], [(903, .vec 158 t158 x133), (3102, .vec 158 t158 x134)]⟩ ?_
  refine Run.ex 4 ?_
  obtain rfl := sI h
  exact ⟨rfl, by kernel_rfl⟩
def f166_c7_post (x205 : Int) (x206 : List Int) (x207 : Int) (x208 : List Int) (x209 : Nat) (x210 : Nat) (x211 : List Int) (x212 : Int) (x213 : Int) (x214 : Bool) (x215 : List Int) : (Int) → Ex → St → Prop
 | o, x, s => x = .nrm ∧ s = ⟨[(8, .d t158 x205), (9, .d t66 x206), (10, .d t12 x207), (11, .d t66 x208), (12, .sub 903 t158 x209 x210), (13, .d t66 x211), (14, .d t2 x212), (15, .d t12 o)], [(903, .vec 158 t158 x215)]⟩
def f166_c7 (x206 : List Int) (x208 : List Int) (x213 : Int) (x214 : Bool) : Option (Int) :=
 (bif x214 then
 gd (0 ≤ (ofN (List.length x206))) <|
 gd ((ofN (List.length x206)) < ((List.length x208 : Nat) : Int)) <|
 some (wrapI .u64 ((wrapI .u64 (List.getD x208 (toN (ofN (List.length x206))) (0 : Int))) * (1000000000 : Int)))
 else
 some x213)
theorem f166_c7_ok (x205 : Int) (x206 : List Int) (x207 : Int) (x208 : List Int) (x209 : Nat) (x210 : Nat) (x211 : List Int) (x212 : Int) (x213 : Int) (x214 : Bool) (x215 : List Int) {out : (Int)} (h : f166_c7 x206 x208 x213 x214 = some out) : Run Pg 173 (sq2 (sq1 (sq2 (sq2 (bk1 (sq1 (sq2 (lp1 (bk1 (sq2 (sq1 (sq2 (sq2 (sq2 (sq2 (sq2 (sq2 (sq2 (sq2 (sq2 c_166)))))))))))))))))))) ⟨[(8, .d t158 x205), (9, .d t66 x206), (10, .d t12 x207), (11, .d t66 x208), (12, .sub 903 t158 x209 x210), (13, .d t66 x211), (14, .d t2 x212), (15, .d t12 x213), (91, .d t4 x214)], [(903, .vec 158 t158 x215)]⟩ (f166_c7_post x205 x206 x207 x208 x209 x210 x211 x212 x213 x214 x215 out) := by
 unfold f166_c7 at h
 refine Run.cd x214 (fun hb => ?_) (fun hb => ?_)
 ·replace h := bif_t h hb
  obtain ⟨g_0, h⟩ := gd_elim h
  obtain ⟨g_1, h⟩ := gd_elim h
  refine qE [] 1800 ⟨[(8, .d t158 x205), (9, .d t66 x206), (10, .d t12 x207), (11, .d t66 x208), (12, .sub 903 t158 x209 x210), (13, .d t66 x211), (14, .d t2 x212), (15, .d t12 (wrapI .u64 ((wrapI .u64 (List.getD x208 (toN (ofN (List.length x206))) (0 : Int))) * (1000000000 : Int))))], [(903, .vec 158 t158 x215)]⟩ (aC g_0 (aC g_1 aN)) ?_
  obtain rfl := sI h
  exact ⟨rfl, by kernel_rfl⟩
 ·replace h := bif_f h hb
  refine qK ⟨[(8, .d t158 x205), (9, .d t66 x206), (10, .d t12 x207), (11, .d t66 x208), (12, .sub 903 t158 x209 x210), (13, .d t66 x211), (14, .d t2 x212), (15, .d t12 x213)], [(903, .vec 158 t158 x215)]⟩ ?_
  refine Run.sk ?_
  obtain rfl := sI h
  exact ⟨rfl, by kernel_rfl⟩
def f166_c8_post (x217 : Int) (x218 : List Int) (x219 : Int) (x220 : List Int) (x221 : Nat) (x222 : Nat) (x223 : List Int) (x224 : Int) (x225 : Int) (x226 : Bool) (x227 : List Int) : (Int) → Ex → St → Prop
 | o, x, s => x = .nrm ∧ s = ⟨[(8, .d t158 x217), (9, .d t66 x218), (10, .d t12 x219), (11, .d t66 x220), (12, .sub 903 t158 x221 x222), (13, .d t66 x223), (14, .d t2 x224), (15, .d t12 o)], [(903, .vec 158 t158 x227)]⟩
def f166_c8 (x218 : List Int) (x220 : List Int) (x225 : Int) (x226 : Bool) : Option (Int) :=
 (bif x226 then
 gd (0 ≤ (wrapI .i64 ((ofN (List.length x218)) - (1 : Int)))) <|
 gd ((wrapI .i64 ((ofN (List.length x218)) - (1 : Int))) < ((List.length x220 : Nat) : Int)) <|
 some (wrapI .u64 (x225 + (wrapI .u64 (List.getD x220 (toN (wrapI .i64 ((ofN (List.length x218)) - (1 : Int)))) (0 : Int)))))
 else
 some x225)
theorem f166_c8_ok (x217 : Int) (x218 : List Int) (x219 : Int) (x220 : List Int) (x221 : Nat) (x222 : Nat) (x223 : List Int) (x224 : Int) (x225 : Int) (x226 : Bool) (x227 : List Int) {out : (Int)} (h : f166_c8 x218 x220 x225 x226 = some out) : Run Pg 173 (sq2 (sq1 (sq2 (sq2 (sq2 (bk1 (sq1 (sq2 (lp1 (bk1 (sq2 (sq1 (sq2 (sq2 (sq2 (sq2 (sq2 (sq2 (sq2 (sq2 (sq2 c_166))))))))))))))))))))) ⟨[(8, .d t158 x217), (9, .d t66 x218), (10, .d t12 x219), (11, .d t66 x220), (12, .sub 903 t158 x221 x222), (13, .d t66 x223), (14, .d t2 x224), (15, .d t12 x225), (103, .d t4 x226)], [(903, .vec 158 t158 x227)]⟩ (f166_c8_post x217 x218 x219 x220 x221 x222 x223 x224 x225 x226 x227 out) := by
 unfold f166_c8 at h
 refine Run.cd x226 (fun hb => ?_) (fun hb => ?_)
 ·replace h := bif_t h hb
  obtain ⟨g_0, h⟩ := gd_elim h
  obtain ⟨g_1, h⟩ := gd_elim h
  refine qE [] 2000 ⟨[(8, .d t158 x217), (9, .d t66 x218), (10, .d t12 x219), (11, .d t66 x220), (12, .sub 903 t158 x221 x222), (13, .d t66 x223), (14, .d t2 x224), (15, .d t12 (wrapI .u64 (x225 + (wrapI .u64 (List.getD x220 (toN (wrapI .i64 ((ofN (List.length x218)) - (1 : Int)))) (0 : Int))))))], [(903, .vec 158 t158 x227)]⟩ (aC g_0 (aC g_1 aN)) ?_
  obtain rfl := sI h
  exact ⟨rfl, by kernel_rfl⟩
 ·replace h := bif_f h hb
  refine qK ⟨[(8, .d t158 x217), (9, .d t66 x218), (10, .d t12 x219), (11, .d t66 x220), (12, .sub 903 t158 x221 x222), (13, .d t66 x223), (14, .d t2 x224), (15, .d t12 x225)], [(903, .vec 158 t158 x227)]⟩ ?_
  refine Run.sk ?_
  obtain rfl := sI h
  exact ⟨rfl, by kernel_rfl⟩
def f166_c9_post (x229 : Int) (x230 : List Int) (x231 : Int) (x232 : List Int) (x233 : Nat) (x234 : Nat) (x235 : List Int) (x236 : Int) (x237 : Int) (x238 : Bool) (x239 : List Int) : (Int) → Ex → St → Prop
 | o, x, s => x = .nrm ∧ s = ⟨[(8, .d t158 x229), (9, .d t66 x230), (10, .d t12 x231), (11, .d t66 x232), (12, .sub 903 t158 x233 x234), (13, .d t66 x235), (14, .d t2 x236), (16, .d t12 o)], [(903, .vec 158 t158 x239)]⟩
def f166_c9 (x237 : Int) (x238 : Bool) : Option (Int) :=
 (bif x238 then
 some (999999999 : Int)
 else
 some x237)
theorem f166_c9_ok (x229 : Int) (x230 : List Int) (x231 : Int) (x232 : List Int) (x233 : Nat) (x234 : Nat) (x235 : List Int) (x236 : Int) (x237 : Int) (x238 : Bool) (x239 : List Int) {out : (Int)} (h : f166_c9 x237 x238 = some out) : Run Pg 173 (sq2 (sq1 (sq2 (sq2 (sq2 (sq2 (sq2 (bk1 (sq1 (sq2 (lp1 (bk1 (sq2 (sq1 (sq2 (sq2 (sq2 (sq2 (sq2 (sq2 (sq2 (sq2 (sq2 c_166))))))))))))))))))))))) ⟨[(8, .d t158 x229), (9, .d t66 x230), (10, .d t12 x231), (11, .d t66 x232), (12, .sub 903 t158 x233 x234), (13, .d t66 x235), (14, .d t2 x236), (16, .d t12 x237), (117, .d t4 x238)], [(903, .vec 158 t158 x239)]⟩ (f166_c9_post x229 x230 x231 x232 x233 x234 x235 x236 x237 x238 x239 out) := by
 unfold f166_c9 at h
 refine Run.cd x238 (fun hb => ?_) (fun hb => ?_)
 ·replace h := bif_t h hb
  refine qE [] 2300 ⟨[(8, .d t158 x229), (9, .d t66 x230), (10, .d t12 x231), (11, .d t66 x232), (12, .sub 903 t158 x233 x234), (13, .d t66 x235), (14, .d t2 x236), (16, .d t12 (999999999 : Int))], [(903, .vec 158 t158 x239)]⟩ aN ?_
  obtain rfl := sI h
  exact ⟨rfl, by kernel_rfl⟩
 ·replace h := bif_f h hb
  refine qK ⟨[(8, .d t158 x229), (9, .d t66 x230), (10, .d t12 x231), (11, .d t66 x232), (12, .sub 903 t158 x233 x234), (13, .d t66 x235), (14, .d t2 x236), (16, .d t12 x237)], [(903, .vec 158 t158 x239)]⟩ ?_
  refine Run.sk ?_
  obtain rfl := sI h
  exact ⟨rfl, by kernel_rfl⟩
def f166_l10_post (x242 : Int) (x243 : List Int) (x244 : Int) (x245 : List Int) (x246 : Nat) (x247 : Nat) (x248 : List Int) (x249 : Int) (x252 : List Int) : (Int × (List Int)) → Ex → St → Prop
 | o, x, s => x = .out 2 ∧ s = ⟨[(8, .d t158 x242), (9, .d t66 x243), (10, .d t12 x244), (11, .d t66 x245), (12, .sub 903 t158 x246 x247), (13, .d t66 x248), (14, .d t2 x249), (16, .d t12 o.1), (17, .d t66 o.2)], [(903, .vec 158 t158 x252)]⟩
def f166_l10_b (x243 : List Int) (x245 : List Int) (again : Int × (List Int) → Option (Int × (List Int))) : Int × (List Int) → Option (Int × (List Int))
 | (x250, x251) =>
 (F74 x251 x245).bind fun y255 =>
 (bif (decide ((0 : Int) < y255)) then
 (F205 x251 x243).bind fun y256 =>
 again ((wrapI .u64 (x250 - (1 : Int))), y256)
 else
 some (x250, x251))
def f166_l10 (x243 : List Int) (x245 : List Int) : Nat → Int × (List Int) → Option (Int × (List Int)) := loopF (f166_l10_b x243 x245)
theorem f166_l10_ok (x242 : Int) (x243 : List Int) (x244 : Int) (x245 : List Int) (x246 : Nat) (x247 : Nat) (x248 : List Int) (x249 : Int) (x252 : List Int) (k : Nat) (x250 : Int) (x251 : List Int) {out : (Int × (List Int))} (h : f166_l10 x243 x245 k (x250, x251) = some out) : Run Pg 173 (bk1 (sq1 (sq2 (sq2 (sq2 (sq2 (sq2 (sq2 (sq2 (bk1 (sq1 (sq2 (lp1 (bk1 (sq2 (sq1 (sq2 (sq2 (sq2 (sq2 (sq2 (sq2 (sq2 (sq2 (sq2 c_166))))))))))))))))))))))))) ⟨[(8, .d t158 x242), (9, .d t66 x243), (10, .d t12 x244), (11, .d t66 x245), (12, .sub 903 t158 x246 x247), (13, .d t66 x248), (14, .d t2 x249), (16, .d t12 x250), (17, .d t66 x251)], [(903, .vec 158 t158 x252)]⟩ (f166_l10_post x242 x243 x244 x245 x246 x247 x248 x249 x252 out) := by
 refine Run.loopN (by kernel_rfl) (fun m s => ∃ x250 x251, s = ⟨[(8, .d t158 x242), (9, .d t66 x243), (10, .d t12 x244), (11, .d t66 x245), (12, .sub 903 t158 x246 x247), (13, .d t66 x248), (14, .d t2 x249), (16, .d t12 x250), (17, .d t66 x251)], [(903, .vec 158 t158 x252)]⟩ ∧ f166_l10 x243 x245 m (x250, x251) = some out) ?_ k ⟨x250, x251,  rfl, h⟩
 rintro m s ⟨x250, x251,  rfl, h⟩
 cases m with
 | zero => cases h
 | succ m =>
 replace h : f166_l10_b x243 x245 (f166_l10 x243 x245 m) (x250, x251) = some out := h
 unfold f166_l10_b at h
 refine Run.sq ?_
 obtain ⟨y255, h_y255, h⟩ := bnd_elim h
 refine qN [(2, .call (.d t2 y255))] 2500 ⟨[(8, .d t158 x242), (9, .d t66 x243), (10, .d t12 x244), (11, .d t66 x245), (12, .sub 903 t158 x246 x247), (13, .d t66 x248), (14, .d t2 x249), (16, .d t12 x250), (17, .d t66 x251), (125, .d t4 (decide ((0 : Int) < y255)))], [(903, .vec 158 t158 x252)]⟩ (aC (c74 h_y255) aN) ?_
 refine Run.cd (decide ((0 : Int) < y255)) (fun hb => ?_) (fun hb => ?_)
 ·replace h := bif_t h hb
  refine Run.sk ?_
  show Run Pg 173 _ _ _
  refine Run.bl 3 ?_
  refine qN [] 2600 ⟨[(8, .d t158 x242), (9, .d t66 x243), (10, .d t12 x244), (11, .d t66 x245), (12, .sub 903 t158 x246 x247), (13, .d t66 x248), (14, .d t2 x249), (16, .d t12 (wrapI .u64 (x250 - (1 : Int)))), (17, .d t66 x251)], [(903, .vec 158 t158 x252)]⟩ aN ?_
  obtain ⟨y256, h_y256, h⟩ := bnd_elim h
  refine qE [(2, .call (.d t66 y256))] 2700 ⟨[(8, .d t158 x242), (9, .d t66 x243), (10, .d t12 x244), (11, .d t66 x245), (12, .sub 903 t158 x246 x247), (13, .d t66 x248), (14, .d t2 x249), (16, .d t12 (wrapI .u64 (x250 - (1 : Int)))), (17, .d t66 y256)], [(903, .vec 158 t158 x252)]⟩ (aC (c205 h_y256) aN) ?_
  exact ⟨m, Nat.lt_succ_self m, _, _, rfl, h⟩
 ·replace h := bif_f h hb
  refine qK ⟨[(8, .d t158 x242), (9, .d t66 x243), (10, .d t12 x244), (11, .d t66 x245), (12, .sub 903 t158 x246 x247), (13, .d t66 x248), (14, .d t2 x249), (16, .d t12 x250), (17, .d t66 x251)], [(903, .vec 158 t158 x252)]⟩ ?_
  refine Run.ex 2 ?_
  obtain rfl := sI h
  exact ⟨rfl, by kernel_rfl⟩
def f166_l6_post (x140 : Int) (x141 : List Int) (x142 : Int) (x144 : Nat) (x145 : Nat) (x146 : List Int) : ((List Int) × (List Int)) → Ex → St → Prop
 | o, x, s => x = .out 0 ∧ s = ⟨[(8, .d t158 x140), (11, .d t66 o.1), (12, .sub 903 t158 x144 x145)], [(903, .vec 158 t158 o.2)]⟩
def f166_l6_b (x141 : List Int) (x142 : Int) (x144 : Nat) (x145 : Nat) (x146 : List Int) (again : (List Int) × Int × (List Int) → Option ((List Int) × (List Int))) : (List Int) × Int × (List Int) → Option ((List Int) × (List Int))
 | (x143, x147, x148) =>
 (bif (decide ((0 : Int) ≤ x147)) then
 gd (0 ≤ x147) <|
 gd (x147 < ((List.length x146 : Nat) : Int)) <|
 gd (List.length (([(List.getD x146 (toN x147) (0 : Int))] : List Int) ++ x143) ≤ 1073741824) <|
 (F120 (([(List.getD x146 (toN x147) (0 : Int))] : List Int) ++ x143)).bind fun y204 =>
 ((f166_c7 x141 y204 (0 : Int) (decide ((ofN (List.length x141)) < (ofN (List.length y204))))).bind fun o216 =>
 ((f166_c8 x141 y204 o216 (decide ((ofN (List.length x141)) ≤ (ofN (List.length y204))))).bind fun o228 =>
 gd (x142 ≠ 0) <|
 ((f166_c9 (wrapI .u64 (Int.tdiv o228 x142)) (decide ((999999999 : Int) < (wrapI .u64 (Int.tdiv o228 x142))))).bind fun o240 =>
 (F204 x141 (wrapI .u32 o240)).bind fun y241 =>
 ((f166_l10 x141 y204 (2 + List.length x141 + List.length y204 + List.length x146 + List.length x148 + List.length y241) (o240, y241)).bind fun o257 =>
 (F205 y204 o257.2).bind fun y258 =>
 gd (0 ≤ x147) <|
 gd (x147 < ((x145 : Nat) : Int)) <|
 gd ((x144 + toN x147) < List.length x148) <|
 again (y258, (wrapI .i64 (x147 - (1 : Int))), (List.set x148 (x144 + toN x147) (wrapI .u32 o257.1)))))))
 else
 some (x143, x148))
def f166_l6 (x141 : List Int) (x142 : Int) (x144 : Nat) (x145 : Nat) (x146 : List Int) : Nat → (List Int) × Int × (List Int) → Option ((List Int) × (List Int)) := loopF (f166_l6_b x141 x142 x144 x145 x146)
theorem f166_l6_ok (x140 : Int) (x141 : List Int) (x142 : Int) (x144 : Nat) (x145 : Nat) (x146 : List Int) (k : Nat) (x143 : List Int) (x147 : Int) (x148 : List Int) {out : ((List Int) × (List Int))} (h : f166_l6 x141 x142 x144 x145 x146 k (x143, x147, x148) = some out) : Run Pg 173 (bk1 (sq2 (sq1 (sq2 (sq2 (sq2 (sq2 (sq2 (sq2 (sq2 (sq2 (sq2 c_166)))))))))))) ⟨[(8, .d t158 x140), (9, .d t66 x141), (10, .d t12 x142), (11, .d t66 x143), (12, .sub 903 t158 x144 x145), (13, .d t66 x146), (14, .d t2 x147)], [(903, .vec 158 t158 x148)]⟩ (f166_l6_post x140 x141 x142 x144 x145 x146 out) := by
 refine Run.loopN (by kernel_rfl) (fun m s => ∃ x143 x147 x148, s = ⟨[(8, .d t158 x140), (9, .d t66 x141), (10, .d t12 x142), (11, .d t66 x143), (12, .sub 903 t158 x144 x145), (13, .d t66 x146), (14, .d t2 x147)], [(903, .vec 158 t158 x148)]⟩ ∧ f166_l6 x141 x142 x144 x145 x146 m (x143, x147, x148) = some out) ?_ k ⟨x143, x147, x148,  rfl, h⟩
 rintro m s ⟨x143, x147, x148,  rfl, h⟩
 cases m with
 | zero => cases h
 | succ m =>
 replace h : f166_l6_b x141 x142 x144 x145 x146 (f166_l6 x141 x142 x144 x145 x146 m) (x143, x147, x148) = some out := h
 unfold f166_l6_b at h
 refine Run.sq ?_
 refine qN [] 1300 ⟨[(8, .d t158 x140), (9, .d t66 x141), (10, .d t12 x142), (11, .d t66 x143), (12, .sub 903 t158 x144 x145), (13, .d t66 x146), (14, .d t2 x147), (76, .d t4 (decide ((0 : Int) ≤ x147)))], [(903, .vec 158 t158 x148)]⟩ aN ?_
 refine Run.cd (decide ((0 : Int) ≤ x147)) (fun hb => ?_) (fun hb => ?_)
 ·replace h := bif_t h hb
  refine Run.sk ?_
  show Run Pg 173 _ _ _
  refine Run.sq ?_
  refine Run.bl 1 ?_
  obtain ⟨g_0, h⟩ := gd_elim h
  obtain ⟨g_1, h⟩ := gd_elim h
  obtain ⟨g_2, h⟩ := gd_elim h
  obtain ⟨y204, h_y204, h⟩ := bnd_elim h
  refine qN [(4, .own), (6, .part), (7, .call (.d t66 y204))] 1500 ⟨[(8, .d t158 x140), (9, .d t66 x141), (10, .d t12 x142), (11, .d t66 y204), (12, .sub 903 t158 x144 x145), (13, .d t66 x146), (14, .d t2 x147)], [(903, .vec 158 t158 x148)]⟩ (aC g_0 (aC g_1 (aC g_2 (aC (c120 h_y204) aN)))) ?_
  refine qN [] 1600 ⟨[(8, .d t158 x140), (9, .d t66 x141), (10, .d t12 x142), (11, .d t66 y204), (12, .sub 903 t158 x144 x145), (13, .d t66 x146), (14, .d t2 x147), (15, .d t12 (0 : Int))], [(903, .vec 158 t158 x148)]⟩ aN ?_
  refine Run.sq ?_
  refine qN [] 1700 ⟨[(8, .d t158 x140), (9, .d t66 x141), (10, .d t12 x142), (11, .d t66 y204), (12, .sub 903 t158 x144 x145), (13, .d t66 x146), (14, .d t2 x147), (15, .d t12 (0 : Int)), (91, .d t4 (decide ((ofN (List.length x141)) < (ofN (List.length y204)))))], [(903, .vec 158 t158 x148)]⟩ aN ?_
  obtain ⟨o216, h_o216, h⟩ := bnd_elim h
  refine Run.mono (f166_c7_ok x140 x141 x142 y204 x144 x145 x146 x147 (0 : Int) (decide ((ofN (List.length x141)) < (ofN (List.length y204)))) x148 h_o216) ?_
  rintro _ _ ⟨rfl, rfl⟩
  show Run Pg 173 _ _ _
  refine Run.sq ?_
  refine qN [] 1900 ⟨[(8, .d t158 x140), (9, .d t66 x141), (10, .d t12 x142), (11, .d t66 y204), (12, .sub 903 t158 x144 x145), (13, .d t66 x146), (14, .d t2 x147), (15, .d t12 o216), (103, .d t4 (decide ((ofN (List.length x141)) ≤ (ofN (List.length y204)))))], [(903, .vec 158 t158 x148)]⟩ aN ?_
  obtain ⟨o228, h_o228, h⟩ := bnd_elim h
  refine Run.mono (f166_c8_ok x140 x141 x142 y204 x144 x145 x146 x147 o216 (decide ((ofN (List.length x141)) ≤ (ofN (List.length y204)))) x148 h_o228) ?_
  rintro _ _ ⟨rfl, rfl⟩
  show Run Pg 173 _ _ _
  obtain ⟨g_0, h⟩ := gd_elim h
  refine qN [] 2100 ⟨[(8, .d t158 x140), (9, .d t66 x141), (10, .d t12 x142), (11, .d t66 y204), (12, .sub 903 t158 x144 x145), (13, .d t66 x146), (14, .d t2 x147), (16, .d t12 (wrapI .u64 (Int.tdiv o228 x142)))], [(903, .vec 158 t158 x148)]⟩ (aC g_0 aN) ?_
  refine Run.sq ?_
  refine qN [] 2200 ⟨[(8, .d t158 x140), (9, .d t66 x141), (10, .d t12 x142), (11, .d t66 y204), (12, .sub 903 t158 x144 x145), (13, .d t66 x146), (14, .d t2 x147), (16, .d t12 (wrapI .u64 (Int.tdiv o228 x142))), (117, .d t4 (decide ((999999999 : Int) < (wrapI .u64 (Int.tdiv o228 x142)))))], [(903, .vec 158 t158 x148)]⟩ aN ?_
  obtain ⟨o240, h_o240, h⟩ := bnd_elim h
  refine Run.mono (f166_c9_ok x140 x141 x142 y204 x144 x145 x146 x147 (wrapI .u64 (Int.tdiv o228 x142)) (decide ((999999999 : Int) < (wrapI .u64 (Int.tdiv o228 x142)))) x148 h_o240) ?_
  rintro _ _ ⟨rfl, rfl⟩
  show Run Pg 173 _ _ _
  obtain ⟨y241, h_y241, h⟩ := bnd_elim h
  refine qN [(3, .call (.d t66 y241))] 2400 ⟨[(8, .d t158 x140), (9, .d t66 x141), (10, .d t12 x142), (11, .d t66 y204), (12, .sub 903 t158 x144 x145), (13, .d t66 x146), (14, .d t2 x147), (16, .d t12 o240), (17, .d t66 y241)], [(903, .vec 158 t158 x148)]⟩ (aC (c204 h_y241) aN) ?_
  refine Run.sq ?_
  refine Run.bl 2 ?_
  obtain ⟨o257, h_o257, h⟩ := bnd_elim h
  refine Run.mono (f166_l10_ok x140 x141 x142 y204 x144 x145 x146 x147 x148 _ o240 y241 h_o257) ?_
  rintro _ _ ⟨rfl, rfl⟩
  show Run Pg 173 _ _ _
  obtain ⟨y258, h_y258, h⟩ := bnd_elim h
  refine qN [(2, .call (.d t66 y258))] 2800 ⟨[(8, .d t158 x140), (9, .d t66 x141), (10, .d t12 x142), (11, .d t66 y258), (12, .sub 903 t158 x144 x145), (13, .d t66 x146), (14, .d t2 x147), (16, .d t12 o257.1)], [(903, .vec 158 t158 x148)]⟩ (aC (c205 h_y258) aN) ?_
  obtain ⟨g_0, h⟩ := gd_elim h
  obtain ⟨g_1, h⟩ := gd_elim h
  obtain ⟨g_2, h⟩ := gd_elim h
  refine qE [] 2900 ⟨[(8, .d t158 x140), (9, .d t66 x141), (10, .d t12 x142), (11, .d t66 y258), (12, .sub 903 t158 x144 x145), (13, .d t66 x146), (14, .d t2 x147)], [(903, .vec 158 t158 (List.set x148 (x144 + toN x147) (wrapI .u32 o257.1)))]⟩ (aC g_0 (aC g_1 (aC g_2 aN))) ?_
  show Run Pg 173 _ _ _
  refine qE [] 1400 ⟨[(8, .d t158 x140), (9, .d t66 x141), (10, .d t12 x142), (11, .d t66 y258), (12, .sub 903 t158 x144 x145), (13, .d t66 x146), (14, .d t2 (wrapI .i64 (x147 - (1 : Int))))], [(903, .vec 158 t158 (List.set x148 (x144 + toN x147) (wrapI .u32 o257.1)))]⟩ aN ?_
  exact ⟨m, Nat.lt_succ_self m, _, _, _, rfl, h⟩
 ·replace h := bif_f h hb
  refine qK ⟨[(8, .d t158 x140), (11, .d t66 x143), (12, .sub 903 t158 x144 x145)], [(903, .vec 158 t158 x148)]⟩ ?_
  refine Run.ex 0 ?_
  obtain rfl := sI h
  exact ⟨rfl, by kernel_rfl⟩
def f166_l11_post (x260 : Int) (x261 : List Int) (x262 : Nat) (x263 : Nat) (x266 : List Int) : ((List Int)) → Ex → St → Prop
 | o, x, s => x = .out 4 ∧ s = ⟨[(12, .sub 903 t158 x262 x263), (19, .vec 3102 t158)], [(903, .vec 158 t158 x266), (3102, .vec 158 t158 o)]⟩
def f166_l11_b (x260 : Int) (x261 : List Int) (again : Int × Int × (List Int) → Option ((List Int))) : Int × Int × (List Int) → Option ((List Int))
 | (x264, x265, x267) =>
 (bif (decide ((0 : Int) ≤ x265)) then
 gd (0 ≤ x265) <|
 gd (x265 < ((List.length x261 : Nat) : Int)) <|
 gd ((wrapI .u64 x260) ≠ 0) <|
 gd (0 ≤ x265) <|
 gd (x265 < ((List.length x267 : Nat) : Int)) <|
 gd ((toN x265) < List.length x267) <|
 gd ((wrapI .u64 x260) ≠ 0) <|
 again ((Int.tmod (wrapI .u64 ((wrapI .u64 (x264 * (1000000000 : Int))) + (wrapI .u64 (List.getD x261 (toN x265) (0 : Int))))) (wrapI .u64 x260)), (wrapI .i64 (x265 - (1 : Int))), (List.set x267 (toN x265) (wrapI .u32 (wrapI .u64 (Int.tdiv (wrapI .u64 ((wrapI .u64 (x264 * (1000000000 : Int))) + (wrapI .u64 (List.getD x261 (toN x265) (0 : Int))))) (wrapI .u64 x260))))))
 else
 some x267)
def f166_l11 (x260 : Int) (x261 : List Int) : Nat → Int × Int × (List Int) → Option ((List Int)) := loopF (f166_l11_b x260 x261)
theorem f166_l11_ok (x260 : Int) (x261 : List Int) (x262 : Nat) (x263 : Nat) (x266 : List Int) (k : Nat) (x264 : Int) (x265 : Int) (x267 : List Int) {out : ((List Int))} (h : f166_l11 x260 x261 k (x264, x265, x267) = some out) : Run Pg 173 (bk1 (sq2 (sq1 (sq2 (sq2 (sq2 (sq2 (sq2 (sq2 (sq2 (sq2 (sq2 (sq2 (sq2 (sq2 c_166))))))))))))))) ⟨[(8, .d t158 x260), (11, .d t66 x261), (12, .sub 903 t158 x262 x263), (18, .d t12 x264), (19, .vec 3102 t158), (20, .d t2 x265)], [(903, .vec 158 t158 x266), (3102, .vec 158 t158 x267)]⟩ (f166_l11_post x260 x261 x262 x263 x266 out) := by
 refine Run.loopN (by kernel_rfl) (fun m s => ∃ x264 x265 x267, s = ⟨[(8, .d t158 x260), (11, .d t66 x261), (12, .sub 903 t158 x262 x263), (18, .d t12 x264), (19, .vec 3102 t158), (20, .d t2 x265)], [(903, .vec 158 t158 x266), (3102, .vec 158 t158 x267)]⟩ ∧ f166_l11 x260 x261 m (x264, x265, x267) = some out) ?_ k ⟨x264, x265, x267,  rfl, h⟩
 rintro m s ⟨x264, x265, x267,  rfl, h⟩
 cases m with
 | zero => cases h
 | succ m =>
 replace h : f166_l11_b x260 x261 (f166_l11 x260 x261 m) (x264, x265, x267) = some out := h
 unfold f166_l11_b at h
 refine Run.sq ?_
 refine qN [] 3300 ⟨[(8, .d t158 x260), (11, .d t66 x261), (12, .sub 903 t158 x262 x263), (18, .d t12 x264), (19, .vec 3102 t158), (20, .d t2 x265), (146, .d t4 (decide ((0 : Int) ≤ x265)))], [(903, .vec 158 t158 x266), (3102, .vec 158 t158 x267)]⟩ aN ?_
 refine Run.cd (decide ((0 : Int) ≤ x265)) (fun hb => ?_) (fun hb => ?_)
 ·replace h := bif_t h hb
  refine Run.sk ?_
  show Run Pg 173 _ _ _
  refine Run.sq ?_
  refine Run.bl 5 ?_
  obtain ⟨g_0, h⟩ := gd_elim h
  obtain ⟨g_1, h⟩ := gd_elim h
  refine qN [] 3500 ⟨[(8, .d t158 x260), (11, .d t66 x261), (12, .sub 903 t158 x262 x263), (18, .d t12 (wrapI .u64 ((wrapI .u64 (x264 * (1000000000 : Int))) + (wrapI .u64 (List.getD x261 (toN x265) (0 : Int)))))), (19, .vec 3102 t158), (20, .d t2 x265)], [(903, .vec 158 t158 x266), (3102, .vec 158 t158 x267)]⟩ (aC g_0 (aC g_1 aN)) ?_
  obtain ⟨g_0, h⟩ := gd_elim h
  obtain ⟨g_1, h⟩ := gd_elim h
  obtain ⟨g_2, h⟩ := gd_elim h
  obtain ⟨g_3, h⟩ := gd_elim h
  refine qN [] 3600 ⟨[(8, .d t158 x260), (11, .d t66 x261), (12, .sub 903 t158 x262 x263), (18, .d t12 (wrapI .u64 ((wrapI .u64 (x264 * (1000000000 : Int))) + (wrapI .u64 (List.getD x261 (toN x265) (0 : Int)))))), (19, .vec 3102 t158), (20, .d t2 x265)], [(903, .vec 158 t158 x266), (3102, .vec 158 t158 (List.set x267 (toN x265) (wrapI .u32 (wrapI .u64 (Int.tdiv (wrapI .u64 ((wrapI .u64 (x264 * (1000000000 : Int))) + (wrapI .u64 (List.getD x261 (toN x265) (0 : Int))))) (wrapI .u64 x260))))))]⟩ (aC g_0 (aC g_1 (aC g_2 (aC g_3 aN)))) ?_
  obtain ⟨g_0, h⟩ := gd_elim h
  refine qE [] 3700 ⟨[(8, .d t158 x260), (11, .d t66 x261), (12, .sub 903 t158 x262 x263), (18, .d t12 (Int.tmod (wrapI .u64 ((wrapI .u64 (x264 * (1000000000 : Int))) + (wrapI .u64 (List.getD x261 (toN x265) (0 : Int))))) (wrapI .u64 x260))), (19, .vec 3102 t158), (20, .d t2 x265)], [(903, .vec 158 t158 x266), (3102, .vec 158 t158 (List.set x267 (toN x265) (wrapI .u32 (wrapI .u64 (Int.tdiv (wrapI .u64 ((wrapI .u64 (x264 * (1000000000 : Int))) + (wrapI .u64 (List.getD x261 (toN x265) (0 : Int))))) (wrapI .u64 x260))))))]⟩ (aC g_0 aN) ?_
  show Run Pg 173 _ _ _
  refine qE [] 3400 ⟨[(8, .d t158 x260), (11, .d t66 x261), (12, .sub 903 t158 x262 x263), (18, .d t12 (Int.tmod (wrapI .u64 ((wrapI .u64 (x264 * (1000000000 : Int))) + (wrapI .u64 (List.getD x261 (toN x265) (0 : Int))))) (wrapI .u64 x260))), (19, .vec 3102 t158), (20, .d t2 (wrapI .i64 (x265 - (1 : Int))))], [(903, .vec 158 t158 x266), (3102, .vec 158 t158 (List.set x267 (toN x265) (wrapI .u32 (wrapI .u64 (Int.tdiv (wrapI .u64 ((wrapI .u64 (x264 * (1000000000 : Int))) + (wrapI .u64 (List.getD x261 (toN x265) (0 : Int))))) (wrapI .u64 x260))))))]⟩ aN ?_
  exact ⟨m, Nat.lt_succ_self m, _, _, _, rfl, h⟩
 ·replace h := bif_f h hb
  refine qK ⟨[(12, .sub 903 t158 x262 x263), (19, .vec 3102 t158)], [(903, .vec 158 t158 x266), (3102, .vec 158 t158 x267)]⟩ ?_
  refine Run.ex 4 ?_
  obtain rfl := sI h
  exact ⟨rfl, by kernel_rfl⟩
def F166 (a0 : List Int) (a1 : List Int) : Option ((List Int) × (List Int)) :=
 (bif (decide ((ofN (List.length a0)) ≤ (2 : Int))) then
 (bif (decide ((ofN (List.length a1)) ≤ (2 : Int))) then
 (F167 a0).bind fun y1 =>
 (F167 a1).bind fun y2 =>
 gd (y2 ≠ 0) <|
 (F80 (wrapI .u64 (Int.tdiv y1 y2))).bind fun y3 =>
 gd (y2 ≠ 0) <|
 (F80 (Int.tmod y1 y2)).bind fun y4 =>
 some (y3, y4)
 else
 gd (0 ≤ (wrapI .i64 ((ofN (List.length a1)) - (1 : Int)))) <|
 gd ((wrapI .i64 ((ofN (List.length a1)) - (1 : Int))) < ((List.length a1 : Nat) : Int)) <|
 gd ((wrapI .u64 ((wrapI .u64 (List.getD a1 (toN (wrapI .i64 ((ofN (List.length a1)) - (1 : Int)))) (0 : Int))) + (1 : Int))) ≠ 0) <|
 (F204 a1 (wrapI .u32 (wrapI .u64 (Int.tdiv (1000000000 : Int) (wrapI .u64 ((wrapI .u64 (List.getD a1 (toN (wrapI .i64 ((ofN (List.length a1)) - (1 : Int)))) (0 : Int))) + (1 : Int))))))).bind fun y5 =>
 gd (0 ≤ (wrapI .i64 ((ofN (List.length y5)) - (1 : Int)))) <|
 gd ((wrapI .i64 ((ofN (List.length y5)) - (1 : Int))) < ((List.length y5 : Nat) : Int)) <|
 gd (0 ≤ (wrapI .i64 ((ofN (List.length a0)) + (1 : Int)))) <|
 gd ((wrapI .i64 ((ofN (List.length a0)) + (1 : Int))) ≤ (wrapI .i64 ((ofN (List.length a0)) + (1 : Int)))) <|
 gd ((wrapI .i64 ((ofN (List.length a0)) + (1 : Int))) ≤ 1073741824) <|
 (F204 a0 (wrapI .u32 (wrapI .u64 (Int.tdiv (1000000000 : Int) (wrapI .u64 ((wrapI .u64 (List.getD a1 (toN (wrapI .i64 ((ofN (List.length a1)) - (1 : Int)))) (0 : Int))) + (1 : Int))))))).bind fun y6 =>
 gd (0 < List.length (List.replicate (toN (wrapI .i64 ((ofN (List.length a0)) + (1 : Int)))) (0 : Int))) <|
 gd (0 ≤ (ofN (List.length y6))) <|
 gd ((ofN (List.length y6)) ≤ ((List.length (List.replicate (toN (wrapI .i64 ((ofN (List.length a0)) + (1 : Int)))) (0 : Int)) : Nat) : Int)) <|
 ((f166_l0 y5 (wrapI .u64 (List.getD y5 (toN (wrapI .i64 ((ofN (List.length y5)) - (1 : Int)))) (0 : Int))) (Int.toNat 0) ((Int.toNat (ofN (List.length y6))) - (Int.toNat 0)) y6 (2 + List.length y5 + List.length y6 + List.length ([] : List Int) + List.length (List.replicate (toN (wrapI .i64 ((ofN (List.length a0)) + (1 : Int)))) (0 : Int))) (([] : List Int), (wrapI .i64 ((ofN (List.length y6)) - (1 : Int))), (List.replicate (toN (wrapI .i64 ((ofN (List.length a0)) + (1 : Int)))) (0 : Int)))).bind fun o126 =>
 gd (0 ≤ (ofN (List.length o126.1))) <|
 gd ((ofN (List.length o126.1)) ≤ (ofN (List.length o126.1))) <|
 gd ((ofN (List.length o126.1)) ≤ 1073741824) <|
 ((f166_l5 (wrapI .u32 (wrapI .u64 (Int.tdiv (1000000000 : Int) (wrapI .u64 ((wrapI .u64 (List.getD a1 (toN (wrapI .i64 ((ofN (List.length a1)) - (1 : Int)))) (0 : Int))) + (1 : Int)))))) o126.1 (2 + List.length o126.1 + List.length o126.2 + List.length (List.replicate (toN (ofN (List.length o126.1))) (0 : Int))) ((0 : Int), (wrapI .i64 ((ofN (List.length o126.1)) - (1 : Int))), (List.replicate (toN (ofN (List.length o126.1))) (0 : Int)))).bind fun o135 =>
 (F120 (List.take ((Int.toNat (ofN (List.length y6))) - (Int.toNat 0)) (List.drop (Int.toNat 0) o126.2))).bind fun y136 =>
 (F120 o135).bind fun y137 =>
 some (y136, y137))))
 else
 gd (0 ≤ (wrapI .i64 ((ofN (List.length a1)) - (1 : Int)))) <|
 gd ((wrapI .i64 ((ofN (List.length a1)) - (1 : Int))) < ((List.length a1 : Nat) : Int)) <|
 gd ((wrapI .u64 ((wrapI .u64 (List.getD a1 (toN (wrapI .i64 ((ofN (List.length a1)) - (1 : Int)))) (0 : Int))) + (1 : Int))) ≠ 0) <|
 (F204 a1 (wrapI .u32 (wrapI .u64 (Int.tdiv (1000000000 : Int) (wrapI .u64 ((wrapI .u64 (List.getD a1 (toN (wrapI .i64 ((ofN (List.length a1)) - (1 : Int)))) (0 : Int))) + (1 : Int))))))).bind fun y138 =>
 gd (0 ≤ (wrapI .i64 ((ofN (List.length y138)) - (1 : Int)))) <|
 gd ((wrapI .i64 ((ofN (List.length y138)) - (1 : Int))) < ((List.length y138 : Nat) : Int)) <|
 gd (0 ≤ (wrapI .i64 ((ofN (List.length a0)) + (1 : Int)))) <|
 gd ((wrapI .i64 ((ofN (List.length a0)) + (1 : Int))) ≤ (wrapI .i64 ((ofN (List.length a0)) + (1 : Int)))) <|
 gd ((wrapI .i64 ((ofN (List.length a0)) + (1 : Int))) ≤ 1073741824) <|
 (F204 a0 (wrapI .u32 (wrapI .u64 (Int.tdiv (1000000000 : Int) (wrapI .u64 ((wrapI .u64 (List.getD a1 (toN (wrapI .i64 ((ofN (List.length a1)) - (1 : Int)))) (0 : Int))) + (1 : Int))))))).bind fun y139 =>
 gd (0 < List.length (List.replicate (toN (wrapI .i64 ((ofN (List.length a0)) + (1 : Int)))) (0 : Int))) <|
 gd (0 ≤ (ofN (List.length y139))) <|
 gd ((ofN (List.length y139)) ≤ ((List.length (List.replicate (toN (wrapI .i64 ((ofN (List.length a0)) + (1 : Int)))) (0 : Int)) : Nat) : Int)) <|
 ((f166_l6 y138 (wrapI .u64 (List.getD y138 (toN (wrapI .i64 ((ofN (List.length y138)) - (1 : Int)))) (0 : Int))) (Int.toNat 0) ((Int.toNat (ofN (List.length y139))) - (Int.toNat 0)) y139 (2 + List.length y138 + List.length y139 + List.length ([] : List Int) + List.length (List.replicate (toN (wrapI .i64 ((ofN (List.length a0)) + (1 : Int)))) (0 : Int))) (([] : List Int), (wrapI .i64 ((ofN (List.length y139)) - (1 : Int))), (List.replicate (toN (wrapI .i64 ((ofN (List.length a0)) + (1 : Int)))) (0 : Int)))).bind fun o259 =>
 gd (0 ≤ (ofN (List.length o259.1))) <|
 gd ((ofN (List.length o259.1)) ≤ (ofN (List.length o259.1))) <|
 gd ((ofN (List.length o259.1)) ≤ 1073741824) <|
 ((f166_l11 (wrapI .u32 (wrapI .u64 (Int.tdiv (1000000000 : Int) (wrapI .u64 ((wrapI .u64 (List.getD a1 (toN (wrapI .i64 ((ofN (List.length a1)) - (1 : Int)))) (0 : Int))) + (1 : Int)))))) o259.1 (2 + List.length o259.1 + List.length o259.2 + List.length (List.replicate (toN (ofN (List.length o259.1))) (0 : Int))) ((0 : Int), (wrapI .i64 ((ofN (List.length o259.1)) - (1 : Int))), (List.replicate (toN (ofN (List.length o259.1))) (0 : Int)))).bind fun o268 =>
 (F120 (List.take ((Int.toNat (ofN (List.length y139))) - (Int.toNat 0)) (List.drop (Int.toNat 0) o259.2))).bind fun y269 =>
 (F120 o268).bind fun y270 =>
 some (y269, y270))))
theorem c166 {a0 : List Int} {a1 : List Int} {r : (List Int) × (List Int)} (h : F166 a0 a1 = some r) : CallPure Pg 166 [(.d t66 a0), (.d t66 a1)] (.tup (.vcons (.d t66 r.1) (.vcons (.d t66 r.2) .vnil))) := by
 refine qC c_166 173 [.tmp 4, .tmp 5] [66, 66] Go.Proofs.Tryz.func166 ?_
 show Run Pg 173 c_166 ⟨[(0, .d t66 a0), (1, .d t66 a1)], []⟩ (fin166 r)
 unfold F166 at h
 refine qN [] 100 ⟨[(0, .d t66 a0), (1, .d t66 a1)], []⟩ aN ?_
 refine Run.sq ?_
 rcases bif_elim h with ⟨hb0, h⟩ | ⟨hb0, h⟩
 ·refine qN [(3, .b true)] 200 ⟨[(0, .d t66 a0), (1, .d t66 a1), (28, .d t4 (decide ((ofN (List.length a1)) ≤ (2 : Int))))], []⟩ (aC hb0 aN) ?_
  refine Run.cd (decide ((ofN (List.length a1)) ≤ (2 : Int))) (fun hb => ?_) (fun hb => ?_)
  ·replace h := bif_t h hb
   obtain ⟨y1, h_y1, h⟩ := bnd_elim h
   obtain ⟨y2, h_y2, h⟩ := bnd_elim h
   refine qN [(1, .call (.d t12 y1)), (3, .call (.d t12 y2))] 300 ⟨[(6, .d t12 y1), (7, .d t12 y2)], []⟩ (aC (c167 h_y1) (aC (c167 h_y2) aN)) ?_
   obtain ⟨g_0, h⟩ := gd_elim h
   obtain ⟨y3, h_y3, h⟩ := bnd_elim h
   obtain ⟨g_2, h⟩ := gd_elim h
   obtain ⟨y4, h_y4, h⟩ := bnd_elim h
   refine qN [(3, .call (.d t66 y3)), (7, .call (.d t66 y4))] 400 ⟨[(4, .d t66 y3), (5, .d t66 y4)], []⟩ (aC g_0 (aC (c80 h_y3) (aC g_2 (aC (c80 h_y4) aN)))) ?_
   refine Run.rt ?_
   obtain rfl := sI h
   exact qR [(.d t66 y3), (.d t66 y4)]
  ·replace h := bif_f h hb
   refine Run.sk ?_
   show Run Pg 173 _ _ _
   obtain ⟨g_0, h⟩ := gd_elim h
   obtain ⟨g_1, h⟩ := gd_elim h
   obtain ⟨g_2, h⟩ := gd_elim h
   refine qN [] 500 ⟨[(0, .d t66 a0), (1, .d t66 a1), (8, .d t158 (wrapI .u32 (wrapI .u64 (Int.tdiv (1000000000 : Int) (wrapI .u64 ((wrapI .u64 (List.getD a1 (toN (wrapI .i64 ((ofN (List.length a1)) - (1 : Int)))) (0 : Int))) + (1 : Int)))))))], []⟩ (aC g_0 (aC g_1 (aC g_2 aN))) ?_
   obtain ⟨y5, h_y5, h⟩ := bnd_elim h
   refine qN [(2, .call (.d t66 y5))] 600 ⟨[(0, .d t66 a0), (8, .d t158 (wrapI .u32 (wrapI .u64 (Int.tdiv (1000000000 : Int) (wrapI .u64 ((wrapI .u64 (List.getD a1 (toN (wrapI .i64 ((ofN (List.length a1)) - (1 : Int)))) (0 : Int))) + (1 : Int))))))), (9, .d t66 y5)], []⟩ (aC (c204 h_y5) aN) ?_
   obtain ⟨g_0, h⟩ := gd_elim h
   obtain ⟨g_1, h⟩ := gd_elim h
   refine qN [] 700 ⟨[(0, .d t66 a0), (8, .d t158 (wrapI .u32 (wrapI .u64 (Int.tdiv (1000000000 : Int) (wrapI .u64 ((wrapI .u64 (List.getD a1 (toN (wrapI .i64 ((ofN (List.length a1)) - (1 : Int)))) (0 : Int))) + (1 : Int))))))), (9, .d t66 y5), (10, .d t12 (wrapI .u64 (List.getD y5 (toN (wrapI .i64 ((ofN (List.length y5)) - (1 : Int)))) (0 : Int))))], []⟩ (aC g_0 (aC g_1 aN)) ?_
   refine qN [] 800 ⟨[(0, .d t66 a0), (8, .d t158 (wrapI .u32 (wrapI .u64 (Int.tdiv (1000000000 : Int) (wrapI .u64 ((wrapI .u64 (List.getD a1 (toN (wrapI .i64 ((ofN (List.length a1)) - (1 : Int)))) (0 : Int))) + (1 : Int))))))), (9, .d t66 y5), (10, .d t12 (wrapI .u64 (List.getD y5 (toN (wrapI .i64 ((ofN (List.length y5)) - (1 : Int)))) (0 : Int)))), (11, .nil)], []⟩ aN ?_
   obtain ⟨g_0, h⟩ := gd_elim h
   obtain ⟨g_1, h⟩ := gd_elim h
   obtain ⟨g_2, h⟩ := gd_elim h
   refine qN [] 900 ⟨[(0, .d t66 a0), (8, .d t158 (wrapI .u32 (wrapI .u64 (Int.tdiv (1000000000 : Int) (wrapI .u64 ((wrapI .u64 (List.getD a1 (toN (wrapI .i64 ((ofN (List.length a1)) - (1 : Int)))) (0 : Int))) + (1 : Int))))))), (9, .d t66 y5), (10, .d t12 (wrapI .u64 (List.getD y5 (toN (wrapI .i64 ((ofN (List.length y5)) - (1 : Int)))) (0 : Int)))), (11, .nil), (12, .vec 903 t158)], [(903, .vec 158 t158 (List.replicate (toN (wrapI .i64 ((ofN (List.length a0)) + (1 : Int)))) (0 : Int)))]⟩ (aC g_0 (aC g_1 (aC g_2 aN))) ?_
   obtain ⟨y6, h_y6, h⟩ := bnd_elim h
   refine qN [(2, .call (.d t66 y6))] 1000 ⟨[(8, .d t158 (wrapI .u32 (wrapI .u64 (Int.tdiv (1000000000 : Int) (wrapI .u64 ((wrapI .u64 (List.getD a1 (toN (wrapI .i64 ((ofN (List.length a1)) - (1 : Int)))) (0 : Int))) + (1 : Int))))))), (9, .d t66 y5), (10, .d t12 (wrapI .u64 (List.getD y5 (toN (wrapI .i64 ((ofN (List.length y5)) - (1 : Int)))) (0 : Int)))), (11, .nil), (12, .vec 903 t158), (13, .d t66 y6)], [(903, .vec 158 t158 (List.replicate (toN (wrapI .i64 ((ofN (List.length a0)) + (1 : Int)))) (0 : Int)))]⟩ (aC (c204 h_y6) aN) ?_
   obtain ⟨g_0, h⟩ := gd_elim h
   obtain ⟨g_1, h⟩ := gd_elim h
   obtain ⟨g_2, h⟩ := gd_elim h
   refine qN [] 1100 ⟨[(8, .d t158 (wrapI .u32 (wrapI .u64 (Int.tdiv (1000000000 : Int) (wrapI .u64 ((wrapI .u64 (List.getD a1 (toN (wrapI .i64 ((ofN (List.length a1)) - (1 : Int)))) (0 : Int))) + (1 : Int))))))), (9, .d t66 y5), (10, .d t12 (wrapI .u64 (List.getD y5 (toN (wrapI .i64 ((ofN (List.length y5)) - (1 : Int)))) (0 : Int)))), (11, .nil), (12, .sub 903 t158 (Int.toNat 0) ((Int.toNat (ofN (List.length y6))) - (Int.toNat 0))), (13, .d t66 y6)], [(903, .vec 158 t158 (List.replicate (toN (wrapI .i64 ((ofN (List.length a0)) + (1 : Int)))) (0 : Int)))]⟩ (aC g_0 (aC g_1 (aC g_2 aN))) ?_
   refine Run.sq ?_
   refine qN [] 1200 ⟨[(8, .d t158 (wrapI .u32 (wrapI .u64 (Int.tdiv (1000000000 : Int) (wrapI .u64 ((wrapI .u64 (List.getD a1 (toN (wrapI .i64 ((ofN (List.length a1)) - (1 : Int)))) (0 : Int))) + (1 : Int))))))), (9, .d t66 y5), (10, .d t12 (wrapI .u64 (List.getD y5 (toN (wrapI .i64 ((ofN (List.length y5)) - (1 : Int)))) (0 : Int)))), (11, .nil), (12, .sub 903 t158 (Int.toNat 0) ((Int.toNat (ofN (List.length y6))) - (Int.toNat 0))), (13, .d t66 y6), (14, .d t2 (wrapI .i64 ((ofN (List.length y6)) - (1 : Int))))], [(903, .vec 158 t158 (List.replicate (toN (wrapI .i64 ((ofN (List.length a0)) + (1 : Int)))) (0 : Int)))]⟩ aN ?_
   refine Run.bl 0 ?_
   refine Run.nilD (s' := ⟨[(11, .d t66 ([] : List Int)), (8, .d t158 (wrapI .u32 (wrapI .u64 (Int.tdiv (1000000000 : Int) (wrapI .u64 ((wrapI .u64 (List.getD a1 (toN (wrapI .i64 ((ofN (List.length a1)) - (1 : Int)))) (0 : Int))) + (1 : Int))))))), (9, .d t66 y5), (10, .d t12 (wrapI .u64 (List.getD y5 (toN (wrapI .i64 ((ofN (List.length y5)) - (1 : Int)))) (0 : Int)))), (11, .nil), (12, .sub 903 t158 (Int.toNat 0) ((Int.toNat (ofN (List.length y6))) - (Int.toNat 0))), (13, .d t66 y6), (14, .d t2 (wrapI .i64 ((ofN (List.length y6)) - (1 : Int))))], [(903, .vec 158 t158 (List.replicate (toN (wrapI .i64 ((ofN (List.length a0)) + (1 : Int)))) (0 : Int)))]⟩) 11 t158 (by kernel_rfl) ?_
   refine qK ⟨[(8, .d t158 (wrapI .u32 (wrapI .u64 (Int.tdiv (1000000000 : Int) (wrapI .u64 ((wrapI .u64 (List.getD a1 (toN (wrapI .i64 ((ofN (List.length a1)) - (1 : Int)))) (0 : Int))) + (1 : Int))))))), (9, .d t66 y5), (10, .d t12 (wrapI .u64 (List.getD y5 (toN (wrapI .i64 ((ofN (List.length y5)) - (1 : Int)))) (0 : Int)))), (11, .d t66 ([] : List Int)), (12, .sub 903 t158 (Int.toNat 0) ((Int.toNat (ofN (List.length y6))) - (Int.toNat 0))), (13, .d t66 y6), (14, .d t2 (wrapI .i64 ((ofN (List.length y6)) - (1 : Int))))], [(903, .vec 158 t158 (List.replicate (toN (wrapI .i64 ((ofN (List.length a0)) + (1 : Int)))) (0 : Int)))]⟩ ?_
   obtain ⟨o126, h_o126, h⟩ := bnd_elim h
   refine Run.mono (f166_l0_ok (wrapI .u32 (wrapI .u64 (Int.tdiv (1000000000 : Int) (wrapI .u64 ((wrapI .u64 (List.getD a1 (toN (wrapI .i64 ((ofN (List.length a1)) - (1 : Int)))) (0 : Int))) + (1 : Int)))))) y5 (wrapI .u64 (List.getD y5 (toN (wrapI .i64 ((ofN (List.length y5)) - (1 : Int)))) (0 : Int))) (Int.toNat 0) ((Int.toNat (ofN (List.length y6))) - (Int.toNat 0)) y6 _ ([] : List Int) (wrapI .i64 ((ofN (List.length y6)) - (1 : Int))) (List.replicate (toN (wrapI .i64 ((ofN (List.length a0)) + (1 : Int)))) (0 : Int)) h_o126) ?_
   rintro _ _ ⟨rfl, rfl⟩
   show Run Pg 173 _ _ _
   refine qN [] 3000 ⟨[(8, .d t158 (wrapI .u32 (wrapI .u64 (Int.tdiv (1000000000 : Int) (wrapI .u64 ((wrapI .u64 (List.getD a1 (toN (wrapI .i64 ((ofN (List.length a1)) - (1 : Int)))) (0 : Int))) + (1 : Int))))))), (11, .d t66 o126.1), (12, .sub 903 t158 (Int.toNat 0) ((Int.toNat (ofN (List.length y6))) - (Int.toNat 0))), (18, .d t12 (0 : Int))], [(903, .vec 158 t158 o126.2)]⟩ aN ?_
   obtain ⟨g_0, h⟩ := gd_elim h
   obtain ⟨g_1, h⟩ := gd_elim h
   obtain ⟨g_2, h⟩ := gd_elim h
   refine qN [] 3100 ⟨[(8, .d t158 (wrapI .u32 (wrapI .u64 (Int.tdiv (1000000000 : Int) (wrapI .u64 ((wrapI .u64 (List.getD a1 (toN (wrapI .i64 ((ofN (List.length a1)) - (1 : Int)))) (0 : Int))) + (1 : Int))))))), (11, .d t66 o126.1), (12, .sub 903 t158 (Int.toNat 0) ((Int.toNat (ofN (List.length y6))) - (Int.toNat 0))), (18, .d t12 (0 : Int)), (19, .vec 3102 t158)], [(903, .vec 158 t158 o126.2), (3102, .vec 158 t158 (List.replicate (toN (ofN (List.length o126.1))) (0 : Int)))]⟩ (aC g_0 (aC g_1 (aC g_2 aN))) ?_
   refine Run.sq ?_
   refine qN [] 3200 ⟨[(8, .d t158 (wrapI .u32 (wrapI .u64 (Int.tdiv (1000000000 : Int) (wrapI .u64 ((wrapI .u64 (List.getD a1 (toN (wrapI .i64 ((ofN (List.length a1)) - (1 : Int)))) (0 : Int))) + (1 : Int))))))), (11, .d t66 o126.1), (12, .sub 903 t158 (Int.toNat 0) ((Int.toNat (ofN (List.length y6))) - (Int.toNat 0))), (18, .d t12 (0 : Int)), (19, .vec 3102 t158), (20, .d t2 (wrapI .i64 ((ofN (List.length o126.1)) - (1 : Int))))], [(903, .vec 158 t158 o126.2), (3102, .vec 158 t158 (List.replicate (toN (ofN (List.length o126.1))) (0 : Int)))]⟩ aN ?_
   refine Run.bl 4 ?_
   obtain ⟨o135, h_o135, h⟩ := bnd_elim h
   refine Run.mono (f166_l5_ok (wrapI .u32 (wrapI .u64 (Int.tdiv (1000000000 : Int) (wrapI .u64 ((wrapI .u64 (List.getD a1 (toN (wrapI .i64 ((ofN (List.length a1)) - (1 : Int)))) (0 : Int))) + (1 : Int)))))) o126.1 (Int.toNat 0) ((Int.toNat (ofN (List.length y6))) - (Int.toNat 0)) o126.2 _ (0 : Int) (wrapI .i64 ((ofN (List.length o126.1)) - (1 : Int))) (List.replicate (toN (ofN (List.length o126.1))) (0 : Int)) h_o135) ?_
   rintro _ _ ⟨rfl, rfl⟩
   show Run Pg 173 _ _ _
   refine Run.freeze (s' := ⟨[(12, .d t66 (List.take ((Int.toNat (ofN (List.length y6))) - (Int.toNat 0)) (List.drop (Int.toNat 0) o126.2))), (19, .vec 3102 t158)], [(3102, .vec 158 t158 o135)]⟩) 903 (by kernel_rfl) ?_
   refine Run.freeze (s' := ⟨[(12, .d t66 (List.take ((Int.toNat (ofN (List.length y6))) - (Int.toNat 0)) (List.drop (Int.toNat 0) o126.2))), (19, .d t66 o135)], []⟩) 3102 (by kernel_rfl) ?_
   obtain ⟨y136, h_y136, h⟩ := bnd_elim h
   obtain ⟨y137, h_y137, h⟩ := bnd_elim h
   refine qN [(1, .call (.d t66 y136)), (3, .call (.d t66 y137))] 3800 ⟨[(4, .d t66 y136), (5, .d t66 y137)], []⟩ (aC (c120 h_y136) (aC (c120 h_y137) aN)) ?_
   refine Run.rt ?_
   obtain rfl := sI h
   exact qR [(.d t66 y136), (.d t66 y137)]
 ·refine qN [(3, .b false)] 200 ⟨[(0, .d t66 a0), (1, .d t66 a1), (28, .d t4 false)], []⟩ (aC hb0 aN) ?_
  refine Run.cd false (fun hb => (by cases hb)) (fun hb => ?_)
  refine Run.sk ?_
  show Run Pg 173 _ _ _
  obtain ⟨g_0, h⟩ := gd_elim h
  obtain ⟨g_1, h⟩ := gd_elim h
  obtain ⟨g_2, h⟩ := gd_elim h
  refine qN [] 500 ⟨[(0, .d t66 a0), (1, .d t66 a1), (8, .d t158 (wrapI .u32 (wrapI .u64 (Int.tdiv (1000000000 : Int) (wrapI .u64 ((wrapI .u64 (List.getD a1 (toN (wrapI .i64 ((ofN (List.length a1)) - (1 : Int)))) (0 : Int))) + (1 : Int)))))))], []⟩ (aC g_0 (aC g_1 (aC g_2 aN))) ?_
  obtain ⟨y138, h_y138, h⟩ := bnd_elim h
  refine qN [(2, .call (.d t66 y138))] 600 ⟨[(0, .d t66 a0), (8, .d t158 (wrapI .u32 (wrapI .u64 (Int.tdiv (1000000000 : Int) (wrapI .u64 ((wrapI .u64 (List.getD a1 (toN (wrapI .i64 ((ofN (List.length a1)) - (1 : Int)))) (0 : Int))) + (1 : Int))))))), (9, .d t66 y138)], []⟩ (aC (c204 h_y138) aN) ?_
  obtain ⟨g_0, h⟩ := gd_elim h
  obtain ⟨g_1, h⟩ := gd_elim h
  refine qN [] 700 ⟨[(0, .d t66 a0), (8, .d t158 (wrapI .u32 (wrapI .u64 (Int.tdiv (1000000000 : Int) (wrapI .u64 ((wrapI .u64 (List.getD a1 (toN (wrapI .i64 ((ofN (List.length a1)) - (1 : Int)))) (0 : Int))) + (1 : Int))))))), (9, .d t66 y138), (10, .d t12 (wrapI .u64 (List.getD y138 (toN (wrapI .i64 ((ofN (List.length y138)) - (1 : Int)))) (0 : Int))))], []⟩ (aC g_0 (aC g_1 aN)) ?_
  refine qN [] 800 ⟨[(0, .d t66 a0), (8, .d t158 (wrapI .u32 (wrapI .u64 (Int.tdiv (1000000000 : Int) (wrapI .u64 ((wrapI .u64 (List.getD a1 (toN (wrapI .i64 ((ofN (List.length a1)) - (1 : Int)))) (0 : Int))) + (1 : Int))))))), (9, .d t66 y138), (10, .d t12 (wrapI .u64 (List.getD y138 (toN (wrapI .i64 ((ofN (List.length y138)) - (1 : Int)))) (0 : Int)))), (11, .nil)], []⟩ aN ?_
  obtain ⟨g_0, h⟩ := gd_elim h
  obtain ⟨g_1, h⟩ := gd_elim h
  obtain ⟨g_2, h⟩ := gd_elim h
  refine qN [] 900 ⟨[(0, .d t66 a0), (8, .d t158 (wrapI .u32 (wrapI .u64 (Int.tdiv (1000000000 : Int) (wrapI .u64 ((wrapI .u64 (List.getD a1 (toN (wrapI .i64 ((ofN (List.length a1)) - (1 : Int)))) (0 : Int))) + (1 : Int))))))), (9, .d t66 y138), (10, .d t12 (wrapI .u64 (List.getD y138 (toN (wrapI .i64 ((ofN (List.length y138)) - (1 : Int)))) (0 : Int)))), (11, .nil), (12, .vec 903 t158)], [(903, .vec 158 t158 (List.replicate (toN (wrapI .i64 ((ofN (List.length a0)) + (1 : Int)))) (0 : Int)))]⟩ (aC g_0 (aC g_1 (aC g_2 aN))) ?_
  obtain ⟨y139, h_y139, h⟩ := bnd_elim h
  refine qN [(2, .call (.d t66 y139))] 1000 ⟨[(8, .d t158 (wrapI .u32 (wrapI .u64 (Int.tdiv (1000000000 : Int) (wrapI .u64 ((wrapI .u64 (List.getD a1 (toN (wrapI .i64 ((ofN (List.length a1)) - (1 : Int)))) (0 : Int))) + (1 : Int))))))), (9, .d t66 y138), (10, .d t12 (wrapI .u64 (List.getD y138 (toN (wrapI .i64 ((ofN (List.length y138)) - (1 : Int)))) (0 : Int)))), (11, .nil), (12, .vec 903 t158), (13, .d t66 y139)], [(903, .vec 158 t158 (List.replicate (toN (wrapI .i64 ((ofN (List.length a0)) + (1 : Int)))) (0 : Int)))]⟩ (aC (c204 h_y139) aN) ?_
  obtain ⟨g_0, h⟩ := gd_elim h
  obtain ⟨g_1, h⟩ := gd_elim h
  obtain ⟨g_2, h⟩ := gd_elim h
  refine qN [] 1100 ⟨[(8, .d t158 (wrapI .u32 (wrapI .u64 (Int.tdiv (1000000000 : Int) (wrapI .u64 ((wrapI .u64 (List.getD a1 (toN (wrapI .i64 ((ofN (List.length a1)) - (1 : Int)))) (0 : Int))) + (1 : Int))))))), (9, .d t66 y138), (10, .d t12 (wrapI .u64 (List.getD y138 (toN (wrapI .i64 ((ofN (List.length y138)) - (1 : Int)))) (0 : Int)))), (11, .nil), (12, .sub 903 t158 (Int.toNat 0) ((Int.toNat (ofN (List.length y139))) - (Int.toNat 0))), (13, .d t66 y139)], [(903, .vec 158 t158 (List.replicate (toN (wrapI .i64 ((ofN (List.length a0)) + (1 : Int)))) (0 : Int)))]⟩ (aC g_0 (aC g_1 (aC g_2 aN))) ?_
  refine Run.sq ?_
  refine qN [] 1200 ⟨[(8, .d t158 (wrapI .u32 (wrapI .u64 (Int.tdiv (1000000000 : Int) (wrapI .u64 ((wrapI .u64 (List.getD a1 (toN (wrapI .i64 ((ofN (List.length a1)) - (1 : Int)))) (0 : Int))) + (1 : Int))))))), (9, .d t66 y138), (10, .d t12 (wrapI .u64 (List.getD y138 (toN (wrapI .i64 ((ofN (List.length y138)) - (1 : Int)))) (0 : Int)))), (11, .nil), (12, .sub 903 t158 (Int.toNat 0) ((Int.toNat (ofN (List.length y139))) - (Int.toNat 0))), (13, .d t66 y139), (14, .d t2 (wrapI .i64 ((ofN (List.length y139)) - (1 : Int))))], [(903, .vec 158 t158 (List.replicate (toN (wrapI .i64 ((ofN (List.length a0)) + (1 : Int)))) (0 : Int)))]⟩ aN ?_
  refine Run.bl 0 ?_
  refine Run.nilD (s' := ⟨[(11, .d t66 ([] : List Int)), (8, .d t158 (wrapI .u32 (wrapI .u64 (Int.tdiv (1000000000 : Int) (wrapI .u64 ((wrapI .u64 (List.getD a1 (toN (wrapI .i64 ((ofN (List.length a1)) - (1 : Int)))) (0 : Int))) + (1 : Int))))))), (9, .d t66 y138), (10, .d t12 (wrapI .u64 (List.getD y138 (toN (wrapI .i64 ((ofN (List.length y138)) - (1 : Int)))) (0 : Int)))), (11, .nil), (12, .sub 903 t158 (Int.toNat 0) ((Int.toNat (ofN (List.length y139))) - (Int.toNat 0))), (13, .d t66 y139), (14, .d t2 (wrapI .i64 ((ofN (List.length y139)) - (1 : Int))))], [(903, .vec 158 t158 (List.replicate (toN (wrapI .i64 ((ofN (List.length a0)) + (1 : Int)))) (0 : Int)))]⟩) 11 t158 (by kernel_rfl) ?_
  refine qK ⟨[(8, .d t158 (wrapI .u32 (wrapI .u64 (Int.tdiv (1000000000 : Int) (wrapI .u64 ((wrapI .u64 (List.getD a1 (toN (wrapI .i64 ((ofN (List.length a1)) - (1 : Int)))) (0 : Int))) + (1 : Int))))))), (9, .d t66 y138), (10, .d t12 (wrapI .u64 (List.getD y138 (toN (wrapI .i64 ((ofN (List.length y138)) - (1 : Int)))) (0 : Int)))), (11, .d t66 ([] : List Int)), (12, .sub 903 t158 (Int.toNat 0) ((Int.toNat (ofN (List.length y139))) - (Int.toNat 0))), (13, .d t66 y139), (14, .d t2 (wrapI .i64 ((ofN (List.length y139)) - (1 : Int))))], [(903, .vec 158 t158 (List.replicate (toN (wrapI .i64 ((ofN (List.length a0)) + (1 : Int)))) (0 : Int)))]⟩ ?_
  obtain ⟨o259, h_o259, h⟩ := bnd_elim h
  refine Run.mono (f166_l6_ok (wrapI .u32 (wrapI .u64 (Int.tdiv (1000000000 : Int) (wrapI .u64 ((wrapI .u64 (List.getD a1 (toN (wrapI .i64 ((ofN (List.length a1)) - (1 : Int)))) (0 : Int))) + (1 : Int)))))) y138 (wrapI .u64 (List.getD y138 (toN (wrapI .i64 ((ofN (List.length y138)) - (1 : Int)))) (0 : Int))) (Int.toNat 0) ((Int.toNat (ofN (List.length y139))) - (Int.toNat 0)) y139 _ ([] : List Int) (wrapI .i64 ((ofN (List.length y139)) - (1 : Int))) (List.replicate (toN (wrapI .i64 ((ofN (List.length a0)) + (1 : Int)))) (0 : Int)) h_o259) ?_
  rintro _ _ ⟨rfl, rfl⟩
  show Run Pg 173 _ _ _
  refine qN [] 3000 ⟨[(8, .d t158 (wrapI .u32 (wrapI .u64 (Int.tdiv (1000000000 : Int) (wrapI .u64 ((wrapI .u64 (List.getD a1 (toN (wrapI .i64 ((ofN (List.length a1)) - (1 : Int)))) (0 : Int))) + (1 : Int))))))), (11, .d t66 o259.1), (12, .sub 903 t158 (Int.toNat 0) ((Int.toNat (ofN (List.length y139))) - (Int.toNat 0))), (18, .d t12 (0 : Int))], [(903, .vec 158 t158 o259.2)]⟩ aN ?_
  obtain ⟨g_0, h⟩ := gd_elim h
  obtain ⟨g_1, h⟩ := gd_elim h
  obtain ⟨g_2, h⟩ := gd_elim h
  refine qN [] 3100 ⟨[(8, .d t158 (wrapI .u32 (wrapI .u64 (Int.tdiv (1000000000 : Int) (wrapI .u64 ((wrapI .u64 (List.getD a1 (toN (wrapI .i64 ((ofN (List.length a1)) - (1 : Int)))) (0 : Int))) + (1 : Int))))))), (11, .d t66 o259.1), (12, .sub 903 t158 (Int.toNat 0) ((Int.toNat (ofN (List.length y139))) - (Int.toNat 0))), (18, .d t12 (0 : Int)), (19, .vec 3102 t158)], [(903, .vec 158 t158 o259.2), (3102, .vec 158 t158 (List.replicate (toN (ofN (List.length o259.1))) (0 : Int)))]⟩ (aC g_0 (aC g_1 (aC g_2 aN))) ?_
  refine Run.sq ?_
  refine qN [] 3200 ⟨[(8, .d t158 (wrapI .u32 (wrapI .u64 (Int.tdiv (1000000000 : Int) (wrapI .u64 ((wrapI .u64 (List.getD a1 (toN (wrapI .i64 ((ofN (List.length a1)) - (1 : Int)))) (0 : Int))) + (1 : Int))))))), (11, .d t66 o259.1), (12, .sub 903 t158 (Int.toNat 0) ((Int.toNat (ofN (List.length y139))) - (Int.toNat 0))), (18, .d t12 (0 : Int)), (19, .vec 3102 t158), (20, .d t2 (wrapI .i64 ((ofN (List.length o259.1)) - (1 : Int))))], [(903, .vec 158 t158 o259.2), (3102, .vec 158 t158 (List.replicate (toN (ofN (List.length o259.1))) (0 : Int)))]⟩ aN ?_
  refine Run.bl 4 ?_
  obtain ⟨o268, h_o268, h⟩ := bnd_elim h
  refine Run.mono (f166_l11_ok (wrapI .u32 (wrapI .u64 (Int.tdiv (1000000000 : Int) (wrapI .u64 ((wrapI .u64 (List.getD a1 (toN (wrapI .i64 ((ofN (List.length a1)) - (1 : Int)))) (0 : Int))) + (1 : Int)))))) o259.1 (Int.toNat 0) ((Int.toNat (ofN (List.length y139))) - (Int.toNat 0)) o259.2 _ (0 : Int) (wrapI .i64 ((ofN (List.length o259.1)) - (1 : Int))) (List.replicate (toN (ofN (List.length o259.1))) (0 : Int)) h_o268) ?_
  rintro _ _ ⟨rfl, rfl⟩
  show Run Pg 173 _ _ _
  refine Run.freeze (s' := ⟨[(12, .d t66 (List.take ((Int.toNat (ofN (List.length y139))) - (Int.toNat 0)) (List.drop (Int.toNat 0) o259.2))), (19, .vec 3102 t158)], [(3102, .vec 158 t158 o268)]⟩) 903 (by kernel_rfl) ?_
  refine Run.freeze (s' := ⟨[(12, .d t66 (List.take ((Int.toNat (ofN (List.length y139))) - (Int.toNat 0)) (List.drop (Int.toNat 0) o259.2))), (19, .d t66 o268)], []⟩) 3102 (by kernel_rfl) ?_
  obtain ⟨y269, h_y269, h⟩ := bnd_elim h
  obtain ⟨y270, h_y270, h⟩ := bnd_elim h
  refine qN [(1, .call (.d t66 y269)), (3, .call (.d t66 y270))] 3800 ⟨[(4, .d t66 y269), (5, .d t66 y270)], []⟩ (aC (c120 h_y269) (aC (c120 h_y270) aN)) ?_
  refine Run.rt ?_
  obtain rfl := sI h
  exact qR [(.d t66 y269), (.d t66 y270)]

/-! ## f129 -/
noncomputable def c_129 : Code := body0 Go.Proofs.Tryz.f129
def fin129 (r : IntL) : Ex → St → Prop := endK X0 [.cell 4 68] [68] (.d t67 r)
def f129_l0_post (x3 : IntL) : ((List Int) × (List Int)) → Ex → St → Prop
 | o, x, s => x = .out 0 ∧ s = ⟨[(4, .ptr 102 0), (5, .d t66 o.1), (6, .d t66 o.2)], [(102, bx 68 t67 x3)]⟩
def f129_l0_b  (again : (List Int) × (List Int) → Option ((List Int) × (List Int))) : (List Int) × (List Int) → Option ((List Int) × (List Int))
 | (x1, x2) =>
 (bif (decide ((0 : Int) < (ofN (List.length x2)))) then
 (bif (decide ((2 : Int) < (ofN (List.length x1)))) then
 (F166 x1 x2).bind fun y6 =>
 again (x2, y6.2)
 else
 (bif (decide ((2 : Int) < (ofN (List.length x2)))) then
 (F166 x1 x2).bind fun y7 =>
 again (x2, y7.2)
 else
 some (x1, x2)))
 else
 some (x1, x2))
def f129_l0  : Nat → (List Int) × (List Int) → Option ((List Int) × (List Int)) := loopF (f129_l0_b )
theorem f129_l0_ok (x3 : IntL) (k : Nat) (x1 : List Int) (x2 : List Int) {out : ((List Int) × (List Int))} (h : f129_l0  k (x1, x2) = some out) : Run Pg 54 (bk1 (sq1 (sq2 (sq2 c_129)))) ⟨[(4, .ptr 102 0), (5, .d t66 x1), (6, .d t66 x2)], [(102, bx 68 t67 x3)]⟩ (f129_l0_post x3 out) := by
 refine Run.loopN (by kernel_rfl) (fun m s => ∃ x1 x2, s = ⟨[(4, .ptr 102 0), (5, .d t66 x1), (6, .d t66 x2)], [(102, bx 68 t67 x3)]⟩ ∧ f129_l0  m (x1, x2) = some out) ?_ k ⟨x1, x2,  rfl, h⟩
 rintro m s ⟨x1, x2,  rfl, h⟩
 cases m with
 | zero => cases h
 | succ m =>
 replace h : f129_l0_b  (f129_l0  m) (x1, x2) = some out := h
 unfold f129_l0_b at h
 refine Run.sq ?_
 rcases bif_elim h with ⟨hb0, h⟩ | ⟨hb0, h⟩
 ·rcases bif_elim h with ⟨hb1, h⟩ | ⟨hb1, h⟩
  ·refine qN [(3, .b true), (7, .b true)] 300 ⟨[(4, .ptr 102 0), (5, .d t66 x1), (6, .d t66 x2), (27, .d t4 true)], [(102, bx 68 t67 x3)]⟩ (aC hb0 (aC hb1 aN)) ?_
   refine Run.cd true (fun hb => ?_) (fun hb => (by cases hb))
   refine Run.sk ?_
   show Run Pg 54 _ _ _
   refine Run.bl 1 ?_
   obtain ⟨y6, h_y6, h⟩ := bnd_elim h
   refine qN [(2, .call (.tup (.vcons (.d t66 y6.1) (.vcons (.d t66 y6.2) .vnil))))] 400 ⟨[(4, .ptr 102 0), (6, .d t66 x2), (8, .d t66 y6.2)], [(102, bx 68 t67 x3)]⟩ (aC (c166 h_y6) aN) ?_
   refine qE [] 500 ⟨[(4, .ptr 102 0), (5, .d t66 x2), (6, .d t66 y6.2)], [(102, bx 68 t67 x3)]⟩ aN ?_
   exact ⟨m, Nat.lt_succ_self m, _, _, rfl, h⟩
  ·refine qN [(3, .b true), (7, .b false)] 300 ⟨[(4, .ptr 102 0), (5, .d t66 x1), (6, .d t66 x2), (27, .d t4 (decide ((2 : Int) < (ofN (List.length x2)))))], [(102, bx 68 t67 x3)]⟩ (aC hb0 (aC hb1 aN)) ?_
   refine Run.cd (decide ((2 : Int) < (ofN (List.length x2)))) (fun hb => ?_) (fun hb => ?_)
   ·replace h := bif_t h hb
    refine Run.sk ?_
    show Run Pg 54 _ _ _
    refine Run.bl 1 ?_
    obtain ⟨y7, h_y7, h⟩ := bnd_elim h
    refine qN [(2, .call (.tup (.vcons (.d t66 y7.1) (.vcons (.d t66 y7.2) .vnil))))] 400 ⟨[(4, .ptr 102 0), (6, .d t66 x2), (8, .d t66 y7.2)], [(102, bx 68 t67 x3)]⟩ (aC (c166 h_y7) aN) ?_
    refine qE [] 500 ⟨[(4, .ptr 102 0), (5, .d t66 x2), (6, .d t66 y7.2)], [(102, bx 68 t67 x3)]⟩ aN ?_
    exact ⟨m, Nat.lt_succ_self m, _, _, rfl, h⟩
   ·replace h := bif_f h hb
    refine qK ⟨[(4, .ptr 102 0), (5, .d t66 x1), (6, .d t66 x2)], [(102, bx 68 t67 x3)]⟩ ?_
    refine Run.ex 0 ?_
    obtain rfl := sI h
    exact ⟨rfl, by kernel_rfl⟩
 ·refine qN [(3, .b false)] 300 ⟨[(4, .ptr 102 0), (5, .d t66 x1), (6, .d t66 x2), (27, .d t4 false)], [(102, bx 68 t67 x3)]⟩ (aC hb0 aN) ?_
  refine Run.cd false (fun hb => (by cases hb)) (fun hb => ?_)
  refine qK ⟨[(4, .ptr 102 0), (5, .d t66 x1), (6, .d t66 x2)], [(102, bx 68 t67 x3)]⟩ ?_
  refine Run.ex 0 ?_
  obtain rfl := sI h
  exact ⟨rfl, by kernel_rfl⟩
def f129_l1_post (x14 : IntL) : (Int) → Ex → St → Prop
 | o, x, s => x = .out 2 ∧ s = ⟨[(4, .ptr 102 0), (9, .d t12 o)], [(102, bx 68 t67 x14)]⟩
def f129_l1_b  (again : Int × Int → Option (Int)) : Int × Int → Option (Int)
 | (x12, x13) =>
 (bif (decide ((0 : Int) < x13)) then
 gd (x13 ≠ 0) <|
 again (x13, (Int.tmod x12 x13))
 else
 some x12)
def f129_l1  : Nat → Int × Int → Option (Int) := loopF (f129_l1_b )
theorem f129_l1_ok (x14 : IntL) (k : Nat) (x12 : Int) (x13 : Int) {out : (Int)} (h : f129_l1  k (x12, x13) = some out) : Run Pg 54 (bk1 (sq1 (sq2 (sq2 (sq2 (sq2 (sq2 c_129))))))) ⟨[(4, .ptr 102 0), (9, .d t12 x12), (10, .d t12 x13)], [(102, bx 68 t67 x14)]⟩ (f129_l1_post x14 out) := by
 refine Run.loopN (by kernel_rfl) (fun m s => ∃ x12 x13, s = ⟨[(4, .ptr 102 0), (9, .d t12 x12), (10, .d t12 x13)], [(102, bx 68 t67 x14)]⟩ ∧ f129_l1  m (x12, x13) = some out) ?_ k ⟨x12, x13,  rfl, h⟩
 rintro m s ⟨x12, x13,  rfl, h⟩
 cases m with
 | zero => cases h
 | succ m =>
 replace h : f129_l1_b  (f129_l1  m) (x12, x13) = some out := h
 unfold f129_l1_b at h
 refine Run.sq ?_
 refine qN [] 900 ⟨[(4, .ptr 102 0), (9, .d t12 x12), (10, .d t12 x13), (46, .d t4 (decide ((0 : Int) < x13)))], [(102, bx 68 t67 x14)]⟩ aN ?_
 refine Run.cd (decide ((0 : Int) < x13)) (fun hb => ?_) (fun hb => ?_)
 ·replace h := bif_t h hb
  refine Run.sk ?_
  show Run Pg 54 _ _ _
  refine Run.bl 3 ?_
  obtain ⟨g_0, h⟩ := gd_elim h
  refine qE [] 1000 ⟨[(4, .ptr 102 0), (9, .d t12 x13), (10, .d t12 (Int.tmod x12 x13))], [(102, bx 68 t67 x14)]⟩ (aC g_0 aN) ?_
  exact ⟨m, Nat.lt_succ_self m, _, _, rfl, h⟩
 ·replace h := bif_f h hb
  refine qK ⟨[(4, .ptr 102 0), (9, .d t12 x12)], [(102, bx 68 t67 x14)]⟩ ?_
  refine Run.ex 2 ?_
  obtain rfl := sI h
  exact ⟨rfl, by kernel_rfl⟩
def F129 (a0 : IntL) (a1 : IntL) : Option (IntL) :=
 ((f129_l0  (2 + valF a1.2) (a0.2, a1.2)).bind fun o8 =>
 (bif ((ofN (List.length o8.2)) == (0 : Int)) then
 (F75 false o8.1).bind fun y9 =>
 some y9
 else
 (F167 o8.1).bind fun y10 =>
 (F167 o8.2).bind fun y11 =>
 ((f129_l1  (2 + Int.toNat y11) (y10, y11)).bind fun o15 =>
 (F80 o15).bind fun y16 =>
 (F75 false y16).bind fun y17 =>
 some y17)))
theorem c129 {a0 : IntL} {a1 : IntL} {r : IntL} (h : F129 a0 a1 = some r) : CallPure Pg 129 [(.d t67 a0), (.d t67 a1)] (.d t67 r) := by
 refine qC c_129 54 [.cell 4 68] [68] Go.Proofs.Tryz.func129 ?_
 show Run Pg 54 c_129 ⟨[(0, .d t67 a0), (1, .d t67 a1)], []⟩ (fin129 r)
 unfold F129 at h
 refine qN [] 100 ⟨[(2, .ptr 100 0), (3, .ptr 101 0), (4, .ptr 102 0)], [(100, bx 68 t67 a0), (101, bx 68 t67 a1), (102, bx 68 t67 (false, ([] : List Int)))]⟩ aN ?_
 refine qN [] 200 ⟨[(4, .ptr 102 0), (5, .d t66 a0.2), (6, .d t66 a1.2)], [(102, bx 68 t67 (false, ([] : List Int)))]⟩ aN ?_
 refine Run.sq ?_
 refine Run.bl 0 ?_
 obtain ⟨o8, h_o8, h⟩ := bnd_elim h
 refine Run.mono (f129_l0_ok (false, ([] : List Int)) _ a0.2 a1.2 h_o8) ?_
 rintro _ _ ⟨rfl, rfl⟩
 show Run Pg 54 _ _ _
 refine Run.sq ?_
 refine qN [] 600 ⟨[(4, .ptr 102 0), (5, .d t66 o8.1), (6, .d t66 o8.2), (38, .d t4 ((ofN (List.length o8.2)) == (0 : Int)))], [(102, bx 68 t67 (false, ([] : List Int)))]⟩ aN ?_
 refine Run.cd ((ofN (List.length o8.2)) == (0 : Int)) (fun hb => ?_) (fun hb => ?_)
 ·replace h := bif_t h hb
  obtain ⟨y9, h_y9, h⟩ := bnd_elim h
  refine qN [(1, .call (.d t67 y9))] 700 ⟨[(4, .ptr 102 0)], [(102, bx 68 t67 y9)]⟩ (aC (c75 h_y9) aN) ?_
  refine Run.rt ?_
  obtain rfl := sI h
  exact qR [(.d t67 y9)]
 ·replace h := bif_f h hb
  refine Run.sk ?_
  show Run Pg 54 _ _ _
  obtain ⟨y10, h_y10, h⟩ := bnd_elim h
  obtain ⟨y11, h_y11, h⟩ := bnd_elim h
  refine qN [(1, .call (.d t12 y10)), (3, .call (.d t12 y11))] 800 ⟨[(4, .ptr 102 0), (9, .d t12 y10), (10, .d t12 y11)], [(102, bx 68 t67 (false, ([] : List Int)))]⟩ (aC (c167 h_y10) (aC (c167 h_y11) aN)) ?_
  refine Run.sq ?_
  refine Run.bl 2 ?_
  obtain ⟨o15, h_o15, h⟩ := bnd_elim h
  refine Run.mono (f129_l1_ok (false, ([] : List Int)) _ y10 y11 h_o15) ?_
  rintro _ _ ⟨rfl, rfl⟩
  show Run Pg 54 _ _ _
  obtain ⟨y16, h_y16, h⟩ := bnd_elim h
  obtain ⟨y17, h_y17, h⟩ := bnd_elim h
  refine qN [(1, .call (.d t66 y16)), (2, .call (.d t67 y17))] 1100 ⟨[(4, .ptr 102 0)], [(102, bx 68 t67 y17)]⟩ (aC (c80 h_y16) (aC (c75 h_y17) aN)) ?_
  refine Run.rt ?_
  obtain rfl := sI h
  exact qR [(.d t67 y17)]

/-! ## f168 -/
noncomputable def c_168 : Code := body0 Go.Proofs.Tryz.f168
def fin168 (r : IntL) : Ex → St → Prop := endK X0 [.cell 4 68] [68] (.d t67 r)
def F168 (a0 : IntL) (a1 : IntL) : Option (IntL) :=
 (F128 a1).bind fun y1 =>
 (F169 a0 y1).bind fun y2 =>
 some y2
theorem c168 {a0 : IntL} {a1 : IntL} {r : IntL} (h : F168 a0 a1 = some r) : CallPure Pg 168 [(.d t67 a0), (.d t67 a1)] (.d t67 r) := by
 refine qC c_168 9 [.cell 4 68] [68] Go.Proofs.Tryz.func168 ?_
 show Run Pg 9 c_168 ⟨[(0, .d t67 a0), (1, .d t67 a1)], []⟩ (fin168 r)
 unfold F168 at h
 refine qN [] 100 ⟨[(2, .ptr 100 0), (3, .ptr 101 0), (4, .ptr 102 0)], [(100, bx 68 t67 a0), (101, bx 68 t67 a1), (102, bx 68 t67 (false, ([] : List Int)))]⟩ aN ?_
 obtain ⟨y1, h_y1, h⟩ := bnd_elim h
 obtain ⟨y2, h_y2, h⟩ := bnd_elim h
 refine qN [(2, .call (.d t67 y1)), (3, .call (.d t67 y2))] 200 ⟨[(4, .ptr 102 0)], [(102, bx 68 t67 y2)]⟩ (aC (c128 h_y1) (aC (c169 h_y2) aN)) ?_
 refine Run.rt ?_
 obtain rfl := sI h
 exact qR [(.d t67 y2)]

/-! ## f130 -/
noncomputable def c_130 : Code := body0 Go.Proofs.Tryz.f130
def fin130 (r : IntL × IntL × Int) : Ex → St → Prop := endK X0 [.cell 4 68, .cell 5 68, .tmp 6] [68, 68, 26] (.tup (.vcons (.d t67 r.1) (.vcons (.d t67 r.2.1) (.vcons (.d t2 r.2.2) .vnil))))
def f130_c0_post (x4 : Bool) (x5 : IntL) (x6 : IntL) (x7 : IntL) (x8 : IntL) : RatL → Ex → St → Prop
 | o, x, s => x = .nrm ∧ s = ⟨[(4, .ptr 102 0), (5, .ptr 103 0), (9, .ptr 511 0), (10, .ptr 512 0)], [(102, bx 68 t67 x6), (103, bx 68 t67 x6), (511, bx 68 t67 o.1), (512, bx 68 t67 o.2)]⟩
def f130_c0 (x4 : Bool) (x5 : IntL) (x7 : IntL) (x8 : IntL) : Option RatL :=
 (bif x4 then
 (F53 (1 : Int)).bind fun y12 =>
 (F168 x7 y12).bind fun y13 =>
 (F169 x8 x5).bind fun y14 =>
 some (y13, y14)
 else
 some (x7, x8))
theorem f130_c0_ok (x4 : Bool) (x5 : IntL) (x6 : IntL) (x7 : IntL) (x8 : IntL) {out : RatL} (h : f130_c0 x4 x5 x7 x8 = some out) : Run Pg 54 (sq2 (sq1 (sq2 (sq2 (sq2 (sq2 c_130)))))) ⟨[(3, .ptr 101 0), (4, .ptr 102 0), (5, .ptr 103 0), (9, .ptr 511 0), (10, .ptr 512 0), (45, .d t4 x4)], [(101, bx 68 t67 x5), (102, bx 68 t67 x6), (103, bx 68 t67 x6), (511, bx 68 t67 x7), (512, bx 68 t67 x8)]⟩ (f130_c0_post x4 x5 x6 x7 x8 out) := by
 unfold f130_c0 at h
 refine Run.cd x4 (fun hb => ?_) (fun hb => ?_)
 ·replace h := bif_t h hb
  obtain ⟨y12, h_y12, h⟩ := bnd_elim h
  obtain ⟨y13, h_y13, h⟩ := bnd_elim h
  obtain ⟨y14, h_y14, h⟩ := bnd_elim h
  refine qE [(1, .call (.d t67 y12)), (2, .call (.d t67 y13)), (5, .call (.d t67 y14))] 700 ⟨[(4, .ptr 102 0), (5, .ptr 103 0), (9, .ptr 511 0), (10, .ptr 512 0)], [(102, bx 68 t67 x6), (103, bx 68 t67 x6), (511, bx 68 t67 y13), (512, bx 68 t67 y14)]⟩ (aC (c53 h_y12) (aC (c168 h_y13) (aC (c169 h_y14) aN))) ?_
  obtain rfl := sI h
  exact ⟨rfl, by kernel_rfl⟩
 ·replace h := bif_f h hb
  refine qK ⟨[(4, .ptr 102 0), (5, .ptr 103 0), (9, .ptr 511 0), (10, .ptr 512 0)], [(102, bx 68 t67 x6), (103, bx 68 t67 x6), (511, bx 68 t67 x7), (512, bx 68 t67 x8)]⟩ ?_
  refine Run.sk ?_
  obtain rfl := sI h
  exact ⟨rfl, by kernel_rfl⟩
def F130 (a0 : IntL) (a1 : IntL) : Option (IntL × IntL × Int) :=
 (bif ((ofN (List.length a1.2)) == (0 : Int)) then
 some ((false, ([] : List Int)), (false, ([] : List Int)), (6 : Int))
 else
 (F166 a0.2 a1.2).bind fun y1 =>
 (F75 (!(a0.1 == a1.1)) y1.1).bind fun y2 =>
 (F75 a0.1 y1.2).bind fun y3 =>
 (bif (decide ((0 : Int) < (ofN (List.length y1.2)))) then
 ((f130_c0 (!(a0.1 == a1.1)) a1 y2 y3).bind fun o15 =>
 some (o15.1, o15.2, (0 : Int)))
 else
 some (y2, y3, (0 : Int))))
theorem c130 {a0 : IntL} {a1 : IntL} {r : IntL × IntL × Int} (h : F130 a0 a1 = some r) : CallPure Pg 130 [(.d t67 a0), (.d t67 a1)] (.tup (.vcons (.d t67 r.1) (.vcons (.d t67 r.2.1) (.vcons (.d t2 r.2.2) .vnil)))) := by
 refine qC c_130 54 [.cell 4 68, .cell 5 68, .tmp 6] [68, 68, 26] Go.Proofs.Tryz.func130 ?_
 show Run Pg 54 c_130 ⟨[(0, .d t67 a0), (1, .d t67 a1)], []⟩ (fin130 r)
 unfold F130 at h
 refine qN [] 100 ⟨[(2, .ptr 100 0), (3, .ptr 101 0), (4, .ptr 102 0), (5, .ptr 103 0)], [(100, bx 68 t67 a0), (101, bx 68 t67 a1), (102, bx 68 t67 (false, ([] : List Int))), (103, bx 68 t67 (false, ([] : List Int)))]⟩ aN ?_
 refine Run.sq ?_
 refine qN [] 200 ⟨[(2, .ptr 100 0), (3, .ptr 101 0), (4, .ptr 102 0), (5, .ptr 103 0), (14, .d t4 ((ofN (List.length a1.2)) == (0 : Int)))], [(100, bx 68 t67 a0), (101, bx 68 t67 a1), (102, bx 68 t67 (false, ([] : List Int))), (103, bx 68 t67 (false, ([] : List Int)))]⟩ aN ?_
 refine Run.cd ((ofN (List.length a1.2)) == (0 : Int)) (fun hb => ?_) (fun hb => ?_)
 ·replace h := bif_t h hb
  refine qN [] 300 ⟨[(4, .ptr 102 0), (5, .ptr 103 0), (6, .d t2 (6 : Int))], [(102, bx 68 t67 (false, ([] : List Int))), (103, bx 68 t67 (false, ([] : List Int)))]⟩ aN ?_
  refine Run.rt ?_
  obtain rfl := sI h
  exact qR [(.d t67 (false, ([] : List Int))), (.d t67 (false, ([] : List Int))), (.d t2 (6 : Int))]
 ·replace h := bif_f h hb
  refine Run.sk ?_
  show Run Pg 54 _ _ _
  obtain ⟨y1, h_y1, h⟩ := bnd_elim h
  refine qN [(4, .call (.tup (.vcons (.d t66 y1.1) (.vcons (.d t66 y1.2) .vnil))))] 400 ⟨[(2, .ptr 100 0), (3, .ptr 101 0), (4, .ptr 102 0), (5, .ptr 103 0), (7, .d t66 y1.1), (8, .d t66 y1.2)], [(100, bx 68 t67 a0), (101, bx 68 t67 a1), (102, bx 68 t67 (false, ([] : List Int))), (103, bx 68 t67 (false, ([] : List Int)))]⟩ (aC (c166 h_y1) aN) ?_
  obtain ⟨y2, h_y2, h⟩ := bnd_elim h
  obtain ⟨y3, h_y3, h⟩ := bnd_elim h
  refine qN [(6, .call (.d t67 y2)), (10, .call (.d t67 y3))] 500 ⟨[(2, .ptr 100 0), (3, .ptr 101 0), (4, .ptr 102 0), (5, .ptr 103 0), (8, .d t66 y1.2), (9, .ptr 511 0), (10, .ptr 512 0)], [(100, bx 68 t67 a0), (101, bx 68 t67 a1), (102, bx 68 t67 (false, ([] : List Int))), (103, bx 68 t67 (false, ([] : List Int))), (511, bx 68 t67 y2), (512, bx 68 t67 y3)]⟩ (aC (c75 h_y2) (aC (c75 h_y3) aN)) ?_
  refine Run.sq ?_
  rcases bif_elim h with ⟨hb0, h⟩ | ⟨hb0, h⟩
  ·refine qN [(3, .b true)] 600 ⟨[(3, .ptr 101 0), (4, .ptr 102 0), (5, .ptr 103 0), (9, .ptr 511 0), (10, .ptr 512 0), (45, .d t4 (!(a0.1 == a1.1)))], [(101, bx 68 t67 a1), (102, bx 68 t67 (false, ([] : List Int))), (103, bx 68 t67 (false, ([] : List Int))), (511, bx 68 t67 y2), (512, bx 68 t67 y3)]⟩ (aC hb0 aN) ?_
   obtain ⟨o15, h_o15, h⟩ := bnd_elim h
   refine Run.mono (f130_c0_ok (!(a0.1 == a1.1)) a1 (false, ([] : List Int)) y2 y3 h_o15) ?_
   rintro _ _ ⟨rfl, rfl⟩
   show Run Pg 54 _ _ _
   refine qN [] 800 ⟨[(4, .ptr 102 0), (5, .ptr 103 0), (6, .d t2 (0 : Int))], [(102, bx 68 t67 o15.1), (103, bx 68 t67 o15.2)]⟩ aN ?_
   refine Run.rt ?_
   obtain rfl := sI h
   exact qR [(.d t67 o15.1), (.d t67 o15.2), (.d t2 (0 : Int))]
  ·refine qN [(3, .b false)] 600 ⟨[(3, .ptr 101 0), (4, .ptr 102 0), (5, .ptr 103 0), (9, .ptr 511 0), (10, .ptr 512 0), (45, .d t4 false)], [(101, bx 68 t67 a1), (102, bx 68 t67 (false, ([] : List Int))), (103, bx 68 t67 (false, ([] : List Int))), (511, bx 68 t67 y2), (512, bx 68 t67 y3)]⟩ (aC hb0 aN) ?_
   refine Run.cd false (fun hb => (by cases hb)) (fun hb => ?_)
   refine Run.sk ?_
   show Run Pg 54 _ _ _
   refine qN [] 800 ⟨[(4, .ptr 102 0), (5, .ptr 103 0), (6, .d t2 (0 : Int))], [(102, bx 68 t67 y2), (103, bx 68 t67 y3)]⟩ aN ?_
   refine Run.rt ?_
   obtain rfl := sI h
   exact qR [(.d t67 y2), (.d t67 y3), (.d t2 (0 : Int))]

/-! ## f79 -/
noncomputable def c_79 : Code := body0 Go.Proofs.Tryz.f79
def fin79 (r : RatL) : Ex → St → Prop := endK X0 [.cell 4 70] [70] (.d t69 r)
def f79_c0_post (x2 : Bool) (x3 : IntL) (x4 : IntL) (x5 : RatL) : RatL → Ex → St → Prop
 | o, x, s => x = .nrm ∧ s = ⟨[(2, .ptr 100 0), (3, .ptr 101 0), (4, .ptr 102 0)], [(100, bx 68 t67 o.1), (101, bx 68 t67 o.2), (102, bx 70 t69 x5)]⟩
def f79_c0 (x2 : Bool) (x3 : IntL) (x4 : IntL) : Option RatL :=
 (bif x2 then
 (F128 x3).bind fun y8 =>
 (F128 x4).bind fun y9 =>
 some (y8, y9)
 else
 some (x3, x4))
theorem f79_c0_ok (x2 : Bool) (x3 : IntL) (x4 : IntL) (x5 : RatL) {out : RatL} (h : f79_c0 x2 x3 x4 = some out) : Run Pg 39 (sq2 (sq1 (sq2 c_79))) ⟨[(2, .ptr 100 0), (3, .ptr 101 0), (4, .ptr 102 0), (14, .d t4 x2)], [(100, bx 68 t67 x3), (101, bx 68 t67 x4), (102, bx 70 t69 x5)]⟩ (f79_c0_post x2 x3 x4 x5 out) := by
 unfold f79_c0 at h
 refine Run.cd x2 (fun hb => ?_) (fun hb => ?_)
 ·replace h := bif_t h hb
  obtain ⟨y8, h_y8, h⟩ := bnd_elim h
  obtain ⟨y9, h_y9, h⟩ := bnd_elim h
  refine qE [(1, .call (.d t67 y8)), (3, .call (.d t67 y9))] 300 ⟨[(2, .ptr 100 0), (3, .ptr 101 0), (4, .ptr 102 0)], [(100, bx 68 t67 y8), (101, bx 68 t67 y9), (102, bx 70 t69 x5)]⟩ (aC (c128 h_y8) (aC (c128 h_y9) aN)) ?_
  obtain rfl := sI h
  exact ⟨rfl, by kernel_rfl⟩
 ·replace h := bif_f h hb
  refine qK ⟨[(2, .ptr 100 0), (3, .ptr 101 0), (4, .ptr 102 0)], [(100, bx 68 t67 x3), (101, bx 68 t67 x4), (102, bx 70 t69 x5)]⟩ ?_
  refine Run.sk ?_
  obtain rfl := sI h
  exact ⟨rfl, by kernel_rfl⟩
def F79 (a0 : IntL) (a1 : IntL) : Option RatL :=
 (F127 a1).bind fun y1 =>
 ((f79_c0 (decide (y1 < (0 : Int))) a0 a1).bind fun o10 =>
 (F129 o10.1 o10.2).bind fun y11 =>
 (F130 o10.1 y11).bind fun y12 =>
 (F130 o10.2 y11).bind fun y13 =>
 some (y12.1, y13.1))
theorem c79 {a0 : IntL} {a1 : IntL} {r : RatL} (h : F79 a0 a1 = some r) : CallPure Pg 79 [(.d t67 a0), (.d t67 a1)] (.d t69 r) := by
 refine qC c_79 39 [.cell 4 70] [70] Go.Proofs.Tryz.func79 ?_
 show Run Pg 39 c_79 ⟨[(0, .d t67 a0), (1, .d t67 a1)], []⟩ (fin79 r)
 unfold F79 at h
 refine qN [] 100 ⟨[(2, .ptr 100 0), (3, .ptr 101 0), (4, .ptr 102 0)], [(100, bx 68 t67 a0), (101, bx 68 t67 a1), (102, bx 70 t69 ((false, ([] : List Int)), (false, ([] : List Int))))]⟩ aN ?_
 refine Run.sq ?_
 obtain ⟨y1, h_y1, h⟩ := bnd_elim h
 refine qN [(1, .call (.d t2 y1))] 200 ⟨[(2, .ptr 100 0), (3, .ptr 101 0), (4, .ptr 102 0), (14, .d t4 (decide (y1 < (0 : Int))))], [(100, bx 68 t67 a0), (101, bx 68 t67 a1), (102, bx 70 t69 ((false, ([] : List Int)), (false, ([] : List Int))))]⟩ (aC (c127 h_y1) aN) ?_
 obtain ⟨o10, h_o10, h⟩ := bnd_elim h
 refine Run.mono (f79_c0_ok (decide (y1 < (0 : Int))) a0 a1 ((false, ([] : List Int)), (false, ([] : List Int))) h_o10) ?_
 rintro _ _ ⟨rfl, rfl⟩
 show Run Pg 39 _ _ _
 obtain ⟨y11, h_y11, h⟩ := bnd_elim h
 refine qN [(2, .call (.d t67 y11))] 400 ⟨[(2, .ptr 100 0), (3, .ptr 101 0), (4, .ptr 102 0), (5, .ptr 403 0)], [(100, bx 68 t67 o10.1), (101, bx 68 t67 o10.2), (102, bx 70 t69 ((false, ([] : List Int)), (false, ([] : List Int)))), (403, bx 68 t67 y11)]⟩ (aC (c129 h_y11) aN) ?_
 obtain ⟨y12, h_y12, h⟩ := bnd_elim h
 refine qN [(2, .call (.tup (.vcons (.d t67 y12.1) (.vcons (.d t67 y12.2.1) (.vcons (.d t2 y12.2.2) .vnil)))))] 500 ⟨[(3, .ptr 101 0), (4, .ptr 102 0), (5, .ptr 403 0), (6, .ptr 507 0)], [(101, bx 68 t67 o10.2), (102, bx 70 t69 ((false, ([] : List Int)), (false, ([] : List Int)))), (403, bx 68 t67 y11), (507, bx 68 t67 y12.1)]⟩ (aC (c130 h_y12) aN) ?_
 obtain ⟨y13, h_y13, h⟩ := bnd_elim h
 refine qN [(2, .call (.tup (.vcons (.d t67 y13.1) (.vcons (.d t67 y13.2.1) (.vcons (.d t2 y13.2.2) .vnil)))))] 600 ⟨[(4, .ptr 102 0), (6, .ptr 507 0), (9, .ptr 607 0)], [(102, bx 70 t69 ((false, ([] : List Int)), (false, ([] : List Int)))), (507, bx 68 t67 y12.1), (607, bx 68 t67 y13.1)]⟩ (aC (c130 h_y13) aN) ?_
 refine qN [] 700 ⟨[(4, .ptr 102 0)], [(102, bx 70 t69 (y12.1, y13.1))]⟩ aN ?_
 refine Run.rt ?_
 obtain rfl := sI h
 exact qR [(.d t69 (y12.1, y13.1))]

/-! ## f202 -/
noncomputable def c_202 : Code := body0 Go.Proofs.Tryz.f202
def fin202 (r : RatL) : Ex → St → Prop := endK X0 [.cell 4 70] [70] (.d t69 r)
def F202 (a0 : RatL) (a1 : RatL) : Option RatL :=
 (F48 a0.1 a1.2).bind fun y1 =>
 (F48 a1.1 a0.2).bind fun y2 =>
 (F169 y1 y2).bind fun y3 =>
 (F48 a0.2 a1.2).bind fun y4 =>
 (F79 y3 y4).bind fun y5 =>
 some y5
theorem c202 {a0 : RatL} {a1 : RatL} {r : RatL} (h : F202 a0 a1 = some r) : CallPure Pg 202 [(.d t69 a0), (.d t69 a1)] (.d t69 r) := by
 refine qC c_202 26 [.cell 4 70] [70] Go.Proofs.Tryz.func202 ?_
 show Run Pg 26 c_202 ⟨[(0, .d t69 a0), (1, .d t69 a1)], []⟩ (fin202 r)
 unfold F202 at h
 refine qN [] 100 ⟨[(2, .ptr 100 0), (3, .ptr 101 0), (4, .ptr 102 0)], [(100, bx 70 t69 a0), (101, bx 70 t69 a1), (102, bx 70 t69 ((false, ([] : List Int)), (false, ([] : List Int))))]⟩ aN ?_
 obtain ⟨y1, h_y1, h⟩ := bnd_elim h
 refine qN [(4, .call (.d t67 y1))] 200 ⟨[(2, .ptr 100 0), (3, .ptr 101 0), (4, .ptr 102 0), (5, .ptr 205 0)], [(100, bx 70 t69 a0), (101, bx 70 t69 a1), (102, bx 70 t69 ((false, ([] : List Int)), (false, ([] : List Int)))), (205, bx 68 t67 y1)]⟩ (aC (c48 h_y1) aN) ?_
 obtain ⟨y2, h_y2, h⟩ := bnd_elim h
 refine qN [(4, .call (.d t67 y2))] 300 ⟨[(2, .ptr 100 0), (3, .ptr 101 0), (4, .ptr 102 0), (5, .ptr 205 0), (6, .ptr 305 0)], [(100, bx 70 t69 a0), (101, bx 70 t69 a1), (102, bx 70 t69 ((false, ([] : List Int)), (false, ([] : List Int)))), (205, bx 68 t67 y1), (305, bx 68 t67 y2)]⟩ (aC (c48 h_y2) aN) ?_
 obtain ⟨y3, h_y3, h⟩ := bnd_elim h
 obtain ⟨y4, h_y4, h⟩ := bnd_elim h
 obtain ⟨y5, h_y5, h⟩ := bnd_elim h
 refine qN [(2, .call (.d t67 y3)), (7, .call (.d t67 y4)), (8, .call (.d t69 y5))] 400 ⟨[(4, .ptr 102 0)], [(102, bx 70 t69 y5)]⟩ (aC (c169 h_y3) (aC (c48 h_y4) (aC (c79 h_y5) aN))) ?_
 refine Run.rt ?_
 obtain rfl := sI h
 exact qR [(.d t69 y5)]

/-! ## f201 -/
noncomputable def c_201 : Code := body0 Go.Proofs.Tryz.f201
def fin201 (r : RatL) : Ex → St → Prop := endK X0 [.cell 4 70] [70] (.d t69 r)
def F201 (a0 : RatL) (a1 : RatL) : Option RatL :=
 (F222 a1).bind fun y1 =>
 (F202 a0 y1).bind fun y2 =>
 some y2
theorem c201 {a0 : RatL} {a1 : RatL} {r : RatL} (h : F201 a0 a1 = some r) : CallPure Pg 201 [(.d t69 a0), (.d t69 a1)] (.d t69 r) := by
 refine qC c_201 9 [.cell 4 70] [70] Go.Proofs.Tryz.func201 ?_
 show Run Pg 9 c_201 ⟨[(0, .d t69 a0), (1, .d t69 a1)], []⟩ (fin201 r)
 unfold F201 at h
 refine qN [] 100 ⟨[(2, .ptr 100 0), (3, .ptr 101 0), (4, .ptr 102 0)], [(100, bx 70 t69 a0), (101, bx 70 t69 a1), (102, bx 70 t69 ((false, ([] : List Int)), (false, ([] : List Int))))]⟩ aN ?_
 obtain ⟨y1, h_y1, h⟩ := bnd_elim h
 obtain ⟨y2, h_y2, h⟩ := bnd_elim h
 refine qN [(2, .call (.d t69 y1)), (3, .call (.d t69 y2))] 200 ⟨[(4, .ptr 102 0)], [(102, bx 70 t69 y2)]⟩ (aC (c222 h_y1) (aC (c202 h_y2) aN)) ?_
 refine Run.rt ?_
 obtain rfl := sI h
 exact qR [(.d t69 y2)]

/-! ## f163 -/
noncomputable def c_163 : Code := body0 Go.Proofs.Tryz.f163
def fin163 (r : RatL) : Ex → St → Prop := endK X0 [.cell 4 70] [70] (.d t69 r)
def F163 (a0 : RatL) (a1 : RatL) : Option RatL :=
 (F201 a0 a1).bind fun y1 =>
 some y1
theorem c163 {a0 : RatL} {a1 : RatL} {r : RatL} (h : F163 a0 a1 = some r) : CallPure Pg 163 [(.d t69 a0), (.d t69 a1)] (.d t69 r) := by
 refine qC c_163 8 [.cell 4 70] [70] Go.Proofs.Tryz.func163 ?_
 show Run Pg 8 c_163 ⟨[(0, .d t69 a0), (1, .d t69 a1)], []⟩ (fin163 r)
 unfold F163 at h
 refine qN [] 100 ⟨[(2, .ptr 100 0), (3, .ptr 101 0), (4, .ptr 102 0)], [(100, bx 70 t69 a0), (101, bx 70 t69 a1), (102, bx 70 t69 ((false, ([] : List Int)), (false, ([] : List Int))))]⟩ aN ?_
 obtain ⟨y1, h_y1, h⟩ := bnd_elim h
 refine qN [(2, .call (.d t69 y1))] 200 ⟨[(4, .ptr 102 0)], [(102, bx 70 t69 y1)]⟩ (aC (c201 h_y1) aN) ?_
 refine Run.rt ?_
 obtain rfl := sI h
 exact qR [(.d t69 y1)]

/-! ## f123 -/
noncomputable def c_123 : Code := body0 Go.Proofs.Tryz.f123
def fin123 (r : (RatL × RatL)) : Ex → St → Prop := endK X0 [.cell 4 87] [87] (.d t86 r)
def F123 (a0 : RatL × RatL) (a1 : RatL × RatL) : Option ((RatL × RatL)) :=
 (F163 a1.1 a0.1).bind fun y1 =>
 (F163 a1.2 a0.2).bind fun y2 =>
 some (y1, y2)
theorem c123 {a0 : RatL × RatL} {a1 : RatL × RatL} {r : (RatL × RatL)} (h : F123 a0 a1 = some r) : CallPure Pg 123 [(.d t86 a0), (.d t86 a1)] (.d t86 r) := by
 refine qC c_123 16 [.cell 4 87] [87] Go.Proofs.Tryz.func123 ?_
 show Run Pg 16 c_123 ⟨[(0, .d t86 a0), (1, .d t86 a1)], []⟩ (fin123 r)
 unfold F123 at h
 refine qN [] 100 ⟨[(2, .ptr 100 0), (3, .ptr 101 0), (4, .ptr 102 0)], [(100, bx 87 t86 a0), (101, bx 87 t86 a1), (102, bx 87 t86 (((false, ([] : List Int)), (false, ([] : List Int))), ((false, ([] : List Int)), (false, ([] : List Int)))))]⟩ aN ?_
 obtain ⟨y1, h_y1, h⟩ := bnd_elim h
 obtain ⟨y2, h_y2, h⟩ := bnd_elim h
 refine qN [(4, .call (.d t69 y1)), (9, .call (.d t69 y2))] 200 ⟨[(4, .ptr 102 0)], [(102, bx 87 t86 (y1, y2))]⟩ (aC (c163 h_y1) (aC (c163 h_y2) aN)) ?_
 refine Run.rt ?_
 obtain rfl := sI h
 exact qR [(.d t86 (y1, y2))]

/-! ## f52 -/
noncomputable def c_52 : Code := body0 Go.Proofs.Tryz.f52
def fin52 (r : RatL) : Ex → St → Prop := endK X0 [.cell 4 70] [70] (.d t69 r)
def F52 (a0 : RatL) (a1 : RatL) : Option RatL :=
 (F48 a0.1 a1.1).bind fun y1 =>
 (F48 a0.2 a1.2).bind fun y2 =>
 (F79 y1 y2).bind fun y3 =>
 some y3
theorem c52 {a0 : RatL} {a1 : RatL} {r : RatL} (h : F52 a0 a1 = some r) : CallPure Pg 52 [(.d t69 a0), (.d t69 a1)] (.d t69 r) := by
 refine qC c_52 16 [.cell 4 70] [70] Go.Proofs.Tryz.func52 ?_
 show Run Pg 16 c_52 ⟨[(0, .d t69 a0), (1, .d t69 a1)], []⟩ (fin52 r)
 unfold F52 at h
 refine qN [] 100 ⟨[(2, .ptr 100 0), (3, .ptr 101 0), (4, .ptr 102 0)], [(100, bx 70 t69 a0), (101, bx 70 t69 a1), (102, bx 70 t69 ((false, ([] : List Int)), (false, ([] : List Int))))]⟩ aN ?_
 obtain ⟨y1, h_y1, h⟩ := bnd_elim h
 obtain ⟨y2, h_y2, h⟩ := bnd_elim h
 obtain ⟨y3, h_y3, h⟩ := bnd_elim h
 refine qN [(4, .call (.d t67 y1)), (9, .call (.d t67 y2)), (10, .call (.d t69 y3))] 200 ⟨[(4, .ptr 102 0)], [(102, bx 70 t69 y3)]⟩ (aC (c48 h_y1) (aC (c48 h_y2) (aC (c79 h_y3) aN))) ?_
 refine Run.rt ?_
 obtain rfl := sI h
 exact qR [(.d t69 y3)]

/-! ## f126 -/
noncomputable def c_126 : Code := body0 Go.Proofs.Tryz.f126
def fin126 (r : RatL) : Ex → St → Prop := endK X0 [.cell 4 70] [70] (.d t69 r)
def F126 (a0 : RatL) (a1 : RatL) : Option RatL :=
 (F52 a0 a1).bind fun y1 =>
 some y1
theorem c126 {a0 : RatL} {a1 : RatL} {r : RatL} (h : F126 a0 a1 = some r) : CallPure Pg 126 [(.d t69 a0), (.d t69 a1)] (.d t69 r) := by
 refine qC c_126 8 [.cell 4 70] [70] Go.Proofs.Tryz.func126 ?_
 show Run Pg 8 c_126 ⟨[(0, .d t69 a0), (1, .d t69 a1)], []⟩ (fin126 r)
 unfold F126 at h
 refine qN [] 100 ⟨[(2, .ptr 100 0), (3, .ptr 101 0), (4, .ptr 102 0)], [(100, bx 70 t69 a0), (101, bx 70 t69 a1), (102, bx 70 t69 ((false, ([] : List Int)), (false, ([] : List Int))))]⟩ aN ?_
 obtain ⟨y1, h_y1, h⟩ := bnd_elim h
 refine qN [(2, .call (.d t69 y1))] 200 ⟨[(4, .ptr 102 0)], [(102, bx 70 t69 y1)]⟩ (aC (c52 h_y1) aN) ?_
 refine Run.rt ?_
 obtain rfl := sI h
 exact qR [(.d t69 y1)]

/-! ## f122 -/
noncomputable def c_122 : Code := body0 Go.Proofs.Tryz.f122
def fin122 (r : RatL) : Ex → St → Prop := endK X0 [.cell 4 70] [70] (.d t69 r)
def F122 (a0 : RatL × RatL) (a1 : RatL × RatL) : Option RatL :=
 (F126 a0.1 a1.2).bind fun y1 =>
 (F126 a0.2 a1.1).bind fun y2 =>
 (F163 y1 y2).bind fun y3 =>
 some y3
theorem c122 {a0 : RatL × RatL} {a1 : RatL × RatL} {r : RatL} (h : F122 a0 a1 = some r) : CallPure Pg 122 [(.d t86 a0), (.d t86 a1)] (.d t69 r) := by
 refine qC c_122 16 [.cell 4 70] [70] Go.Proofs.Tryz.func122 ?_
 show Run Pg 16 c_122 ⟨[(0, .d t86 a0), (1, .d t86 a1)], []⟩ (fin122 r)
 unfold F122 at h
 refine qN [] 100 ⟨[(2, .ptr 100 0), (3, .ptr 101 0), (4, .ptr 102 0)], [(100, bx 87 t86 a0), (101, bx 87 t86 a1), (102, bx 70 t69 ((false, ([] : List Int)), (false, ([] : List Int))))]⟩ aN ?_
 obtain ⟨y1, h_y1, h⟩ := bnd_elim h
 obtain ⟨y2, h_y2, h⟩ := bnd_elim h
 obtain ⟨y3, h_y3, h⟩ := bnd_elim h
 refine qN [(4, .call (.d t69 y1)), (9, .call (.d t69 y2)), (10, .call (.d t69 y3))] 200 ⟨[(4, .ptr 102 0)], [(102, bx 70 t69 y3)]⟩ (aC (c126 h_y1) (aC (c126 h_y2) (aC (c163 h_y3) aN))) ?_
 refine Run.rt ?_
 obtain rfl := sI h
 exact qR [(.d t69 y3)]

/-! ## f121 -/
noncomputable def c_121 : Code := body0 Go.Proofs.Tryz.f121
def fin121 (r : Int) : Ex → St → Prop := endK X0 [.tmp 2] [3] (.d t2 r)
def F121 (a0 : RatL) : Option (Int) :=
 (F127 a0.1).bind fun y1 =>
 some y1
theorem c121 {a0 : RatL} {r : Int} (h : F121 a0 = some r) : CallPure Pg 121 [(.d t69 a0)] (.d t2 r) := by
 refine qC c_121 6 [.tmp 2] [3] Go.Proofs.Tryz.func121 ?_
 show Run Pg 6 c_121 ⟨[(0, .d t69 a0)], []⟩ (fin121 r)
 unfold F121 at h
 refine qN [] 100 ⟨[(1, .ptr 100 0)], [(100, bx 70 t69 a0)]⟩ aN ?_
 obtain ⟨y1, h_y1, h⟩ := bnd_elim h
 refine qN [(2, .call (.d t2 y1))] 200 ⟨[(2, .d t2 y1)], []⟩ (aC (c127 h_y1) aN) ?_
 refine Run.rt ?_
 obtain rfl := sI h
 exact qR [(.d t2 y1)]

/-! ## f77 -/
noncomputable def c_77 : Code := body0 Go.Proofs.Tryz.f77
def fin77 (r : Bool) : Ex → St → Prop := endK X0 [.tmp 8] [4] (.d t4 r)
def F77 (a0 : RatL × RatL) (a1 : RatL × RatL) (a2 : RatL × RatL) (a3 : RatL × RatL) : Option (Bool) :=
 (F123 a0 a1).bind fun y1 =>
 (F123 a0 a2).bind fun y2 =>
 (F122 y1 y2).bind fun y3 =>
 (F121 y3).bind fun y4 =>
 (F123 a0 a1).bind fun y5 =>
 (F123 a0 a3).bind fun y6 =>
 (F122 y5 y6).bind fun y7 =>
 (F121 y7).bind fun y8 =>
 (F123 a2 a3).bind fun y9 =>
 (F123 a2 a0).bind fun y10 =>
 (F122 y9 y10).bind fun y11 =>
 (F121 y11).bind fun y12 =>
 (F123 a2 a3).bind fun y13 =>
 (F123 a2 a1).bind fun y14 =>
 (F122 y13 y14).bind fun y15 =>
 (F121 y15).bind fun y16 =>
 (bif (decide ((wrapI .i64 (y4 * y8)) < (0 : Int))) then
 some (decide ((wrapI .i64 (y12 * y16)) < (0 : Int)))
 else
 some false)
theorem c77 {a0 : RatL × RatL} {a1 : RatL × RatL} {a2 : RatL × RatL} {a3 : RatL × RatL} {r : Bool} (h : F77 a0 a1 a2 a3 = some r) : CallPure Pg 77 [(.d t86 a0), (.d t86 a1), (.d t86 a2), (.d t86 a3)] (.d t4 r) := by
 refine qC c_77 55 [.tmp 8] [4] Go.Proofs.Tryz.func77 ?_
 show Run Pg 55 c_77 ⟨[(0, .d t86 a0), (1, .d t86 a1), (2, .d t86 a2), (3, .d t86 a3)], []⟩ (fin77 r)
 unfold F77 at h
 refine qN [] 100 ⟨[(4, .ptr 100 0), (5, .ptr 101 0), (6, .ptr 102 0), (7, .ptr 103 0)], [(100, bx 87 t86 a0), (101, bx 87 t86 a1), (102, bx 87 t86 a2), (103, bx 87 t86 a3)]⟩ aN ?_
 obtain ⟨y1, h_y1, h⟩ := bnd_elim h
 obtain ⟨y2, h_y2, h⟩ := bnd_elim h
 obtain ⟨y3, h_y3, h⟩ := bnd_elim h
 obtain ⟨y4, h_y4, h⟩ := bnd_elim h
 obtain ⟨y5, h_y5, h⟩ := bnd_elim h
 obtain ⟨y6, h_y6, h⟩ := bnd_elim h
 obtain ⟨y7, h_y7, h⟩ := bnd_elim h
 obtain ⟨y8, h_y8, h⟩ := bnd_elim h
 refine qN [(2, .call (.d t86 y1)), (5, .call (.d t86 y2)), (6, .call (.d t69 y3)), (7, .call (.d t2 y4)), (10, .call (.d t86 y5)), (13, .call (.d t86 y6)), (14, .call (.d t69 y7)), (15, .call (.d t2 y8))] 200 ⟨[(4, .ptr 100 0), (5, .ptr 101 0), (6, .ptr 102 0), (7, .ptr 103 0), (9, .d t2 y4), (10, .d t2 y8)], [(100, bx 87 t86 a0), (101, bx 87 t86 a1), (102, bx 87 t86 a2), (103, bx 87 t86 a3)]⟩ (aC (c123 h_y1) (aC (c123 h_y2) (aC (c122 h_y3) (aC (c121 h_y4) (aC (c123 h_y5) (aC (c123 h_y6) (aC (c122 h_y7) (aC (c121 h_y8) aN)))))))) ?_
 obtain ⟨y9, h_y9, h⟩ := bnd_elim h
 obtain ⟨y10, h_y10, h⟩ := bnd_elim h
 obtain ⟨y11, h_y11, h⟩ := bnd_elim h
 obtain ⟨y12, h_y12, h⟩ := bnd_elim h
 obtain ⟨y13, h_y13, h⟩ := bnd_elim h
 obtain ⟨y14, h_y14, h⟩ := bnd_elim h
 obtain ⟨y15, h_y15, h⟩ := bnd_elim h
 obtain ⟨y16, h_y16, h⟩ := bnd_elim h
 refine qN [(2, .call (.d t86 y9)), (5, .call (.d t86 y10)), (6, .call (.d t69 y11)), (7, .call (.d t2 y12)), (10, .call (.d t86 y13)), (13, .call (.d t86 y14)), (14, .call (.d t69 y15)), (15, .call (.d t2 y16))] 300 ⟨[(9, .d t2 y4), (10, .d t2 y8), (11, .d t2 y12), (12, .d t2 y16)], []⟩ (aC (c123 h_y9) (aC (c123 h_y10) (aC (c122 h_y11) (aC (c121 h_y12) (aC (c123 h_y13) (aC (c123 h_y14) (aC (c122 h_y15) (aC (c121 h_y16) aN)))))))) ?_
 rcases bif_elim h with ⟨hb0, h⟩ | ⟨hb0, h⟩
 ·refine qN [(4, .b true)] 400 ⟨[(8, .d t4 (decide ((wrapI .i64 (y12 * y16)) < (0 : Int))))], []⟩ (aC hb0 aN) ?_
  refine Run.rt ?_
  obtain rfl := sI h
  exact qR [(.d t4 (decide ((wrapI .i64 (y12 * y16)) < (0 : Int))))]
 ·refine qN [(4, .b false)] 400 ⟨[(8, .d t4 false)], []⟩ (aC hb0 aN) ?_
  refine Run.rt ?_
  obtain rfl := sI h
  exact qR [(.d t4 false)]

/-! ## f164 -/
noncomputable def c_164 : Code := body0 Go.Proofs.Tryz.f164
def fin164 (r : RatL) : Ex → St → Prop := endK X0 [.cell 4 70] [70] (.d t69 r)
def F164 (a0 : RatL) (a1 : RatL) : Option RatL :=
 (F202 a0 a1).bind fun y1 =>
 some y1
theorem c164 {a0 : RatL} {a1 : RatL} {r : RatL} (h : F164 a0 a1 = some r) : CallPure Pg 164 [(.d t69 a0), (.d t69 a1)] (.d t69 r) := by
 refine qC c_164 8 [.cell 4 70] [70] Go.Proofs.Tryz.func164 ?_
 show Run Pg 8 c_164 ⟨[(0, .d t69 a0), (1, .d t69 a1)], []⟩ (fin164 r)
 unfold F164 at h
 refine qN [] 100 ⟨[(2, .ptr 100 0), (3, .ptr 101 0), (4, .ptr 102 0)], [(100, bx 70 t69 a0), (101, bx 70 t69 a1), (102, bx 70 t69 ((false, ([] : List Int)), (false, ([] : List Int))))]⟩ aN ?_
 obtain ⟨y1, h_y1, h⟩ := bnd_elim h
 refine qN [(2, .call (.d t69 y1))] 200 ⟨[(4, .ptr 102 0)], [(102, bx 70 t69 y1)]⟩ (aC (c202 h_y1) aN) ?_
 refine Run.rt ?_
 obtain rfl := sI h
 exact qR [(.d t69 y1)]

/-! ## f124 -/
noncomputable def c_124 : Code := body0 Go.Proofs.Tryz.f124
def fin124 (r : RatL) : Ex → St → Prop := endK X0 [.cell 4 70] [70] (.d t69 r)
def F124 (a0 : RatL × RatL) (a1 : RatL × RatL) : Option RatL :=
 (F126 a0.1 a1.1).bind fun y1 =>
 (F126 a0.2 a1.2).bind fun y2 =>
 (F164 y1 y2).bind fun y3 =>
 some y3
theorem c124 {a0 : RatL × RatL} {a1 : RatL × RatL} {r : RatL} (h : F124 a0 a1 = some r) : CallPure Pg 124 [(.d t86 a0), (.d t86 a1)] (.d t69 r) := by
 refine qC c_124 16 [.cell 4 70] [70] Go.Proofs.Tryz.func124 ?_
 show Run Pg 16 c_124 ⟨[(0, .d t86 a0), (1, .d t86 a1)], []⟩ (fin124 r)
 unfold F124 at h
 refine qN [] 100 ⟨[(2, .ptr 100 0), (3, .ptr 101 0), (4, .ptr 102 0)], [(100, bx 87 t86 a0), (101, bx 87 t86 a1), (102, bx 70 t69 ((false, ([] : List Int)), (false, ([] : List Int))))]⟩ aN ?_
 obtain ⟨y1, h_y1, h⟩ := bnd_elim h
 obtain ⟨y2, h_y2, h⟩ := bnd_elim h
 obtain ⟨y3, h_y3, h⟩ := bnd_elim h
 refine qN [(4, .call (.d t69 y1)), (9, .call (.d t69 y2)), (10, .call (.d t69 y3))] 200 ⟨[(4, .ptr 102 0)], [(102, bx 70 t69 y3)]⟩ (aC (c126 h_y1) (aC (c126 h_y2) (aC (c164 h_y3) aN))) ?_
 refine Run.rt ?_
 obtain rfl := sI h
 exact qR [(.d t69 y3)]

/-! ## f47 -/
noncomputable def c_47 : Code := body0 Go.Proofs.Tryz.f47
def fin47 (r : Int) : Ex → St → Prop := endK X0 [.tmp 4] [3] (.d t2 r)
def F47 (a0 : IntL) (a1 : IntL) : Option (Int) :=
 (bif (!(a0.1 == a1.1)) then
 (bif a0.1 then
 some (-1 : Int)
 else
 some (1 : Int))
 else
 (bif a0.1 then
 (F74 a1.2 a0.2).bind fun y1 =>
 some y1
 else
 (F74 a0.2 a1.2).bind fun y2 =>
 some y2))
theorem c47 {a0 : IntL} {a1 : IntL} {r : Int} (h : F47 a0 a1 = some r) : CallPure Pg 47 [(.d t67 a0), (.d t67 a1)] (.d t2 r) := by
 refine qC c_47 24 [.tmp 4] [3] Go.Proofs.Tryz.func47 ?_
 show Run Pg 24 c_47 ⟨[(0, .d t67 a0), (1, .d t67 a1)], []⟩ (fin47 r)
 unfold F47 at h
 refine qN [] 100 ⟨[(2, .ptr 100 0), (3, .ptr 101 0)], [(100, bx 68 t67 a0), (101, bx 68 t67 a1)]⟩ aN ?_
 refine Run.sq ?_
 refine qN [] 200 ⟨[(2, .ptr 100 0), (3, .ptr 101 0), (9, .d t4 (!(a0.1 == a1.1)))], [(100, bx 68 t67 a0), (101, bx 68 t67 a1)]⟩ aN ?_
 refine Run.cd (!(a0.1 == a1.1)) (fun hb => ?_) (fun hb => ?_)
 ·replace h := bif_t h hb
  refine Run.sq ?_
  refine qN [] 300 ⟨[(11, .d t4 a0.1)], []⟩ aN ?_
  refine Run.cd a0.1 (fun hb => ?_) (fun hb => ?_)
  ·replace h := bif_t h hb
   refine qN [] 400 ⟨[(4, .d t2 (-1 : Int))], []⟩ aN ?_
   refine Run.rt ?_
   obtain rfl := sI h
   exact qR [(.d t2 (-1 : Int))]
  ·replace h := bif_f h hb
   refine Run.sk ?_
   show Run Pg 24 _ _ _
   refine qN [] 500 ⟨[(4, .d t2 (1 : Int))], []⟩ aN ?_
   refine Run.rt ?_
   obtain rfl := sI h
   exact qR [(.d t2 (1 : Int))]
 ·replace h := bif_f h hb
  refine Run.sk ?_
  show Run Pg 24 _ _ _
  refine Run.sq ?_
  refine qN [] 600 ⟨[(2, .ptr 100 0), (3, .ptr 101 0), (13, .d t4 a0.1)], [(100, bx 68 t67 a0), (101, bx 68 t67 a1)]⟩ aN ?_
  refine Run.cd a0.1 (fun hb => ?_) (fun hb => ?_)
  ·replace h := bif_t h hb
   obtain ⟨y1, h_y1, h⟩ := bnd_elim h
   refine qN [(4, .call (.d t2 y1))] 700 ⟨[(4, .d t2 y1)], []⟩ (aC (c74 h_y1) aN) ?_
   refine Run.rt ?_
   obtain rfl := sI h
   exact qR [(.d t2 y1)]
  ·replace h := bif_f h hb
   refine Run.sk ?_
   show Run Pg 24 _ _ _
   obtain ⟨y2, h_y2, h⟩ := bnd_elim h
   refine qN [(4, .call (.d t2 y2))] 800 ⟨[(4, .d t2 y2)], []⟩ (aC (c74 h_y2) aN) ?_
   refine Run.rt ?_
   obtain rfl := sI h
   exact qR [(.d t2 y2)]

/-! ## f32 -/
noncomputable def c_32 : Code := body0 Go.Proofs.Tryz.f32
def fin32 (r : Int) : Ex → St → Prop := endK X0 [.tmp 4] [3] (.d t2 r)
def F32 (a0 : RatL) (a1 : RatL) : Option (Int) :=
 (F48 a0.1 a1.2).bind fun y1 =>
 (F48 a1.1 a0.2).bind fun y2 =>
 (F47 y1 y2).bind fun y3 =>
 some y3
theorem c32 {a0 : RatL} {a1 : RatL} {r : Int} (h : F32 a0 a1 = some r) : CallPure Pg 32 [(.d t69 a0), (.d t69 a1)] (.d t2 r) := by
 refine qC c_32 16 [.tmp 4] [3] Go.Proofs.Tryz.func32 ?_
 show Run Pg 16 c_32 ⟨[(0, .d t69 a0), (1, .d t69 a1)], []⟩ (fin32 r)
 unfold F32 at h
 refine qN [] 100 ⟨[(2, .ptr 100 0), (3, .ptr 101 0)], [(100, bx 70 t69 a0), (101, bx 70 t69 a1)]⟩ aN ?_
 obtain ⟨y1, h_y1, h⟩ := bnd_elim h
 obtain ⟨y2, h_y2, h⟩ := bnd_elim h
 obtain ⟨y3, h_y3, h⟩ := bnd_elim h
 refine qN [(4, .call (.d t67 y1)), (9, .call (.d t67 y2)), (10, .call (.d t2 y3))] 200 ⟨[(4, .d t2 y3)], []⟩ (aC (c48 h_y1) (aC (c48 h_y2) (aC (c47 h_y3) aN))) ?_
 refine Run.rt ?_
 obtain rfl := sI h
 exact qR [(.d t2 y3)]

/-! ## f203 -/
noncomputable def c_203 : Code := body0 Go.Proofs.Tryz.f203
def fin203 (r : RatL × Int) : Ex → St → Prop := endK X0 [.cell 4 70, .tmp 5] [70, 26] (.tup (.vcons (.d t69 r.1) (.vcons (.d t2 r.2) .vnil)))
def F203 (a0 : IntL) (a1 : IntL) : Option (RatL × Int) :=
 (F127 a1).bind fun y1 =>
 (bif (y1 == (0 : Int)) then
 some (((false, ([] : List Int)), (false, ([] : List Int))), (6 : Int))
 else
 (F79 a0 a1).bind fun y2 =>
 some (y2, (0 : Int)))
theorem c203 {a0 : IntL} {a1 : IntL} {r : RatL × Int} (h : F203 a0 a1 = some r) : CallPure Pg 203 [(.d t67 a0), (.d t67 a1)] (.tup (.vcons (.d t69 r.1) (.vcons (.d t2 r.2) .vnil))) := by
 refine qC c_203 13 [.cell 4 70, .tmp 5] [70, 26] Go.Proofs.Tryz.func203 ?_
 show Run Pg 13 c_203 ⟨[(0, .d t67 a0), (1, .d t67 a1)], []⟩ (fin203 r)
 unfold F203 at h
 refine qN [] 100 ⟨[(2, .ptr 100 0), (3, .ptr 101 0), (4, .ptr 102 0)], [(100, bx 68 t67 a0), (101, bx 68 t67 a1), (102, bx 70 t69 ((false, ([] : List Int)), (false, ([] : List Int))))]⟩ aN ?_
 refine Run.sq ?_
 obtain ⟨y1, h_y1, h⟩ := bnd_elim h
 refine qN [(1, .call (.d t2 y1))] 200 ⟨[(2, .ptr 100 0), (3, .ptr 101 0), (4, .ptr 102 0), (8, .d t4 (y1 == (0 : Int)))], [(100, bx 68 t67 a0), (101, bx 68 t67 a1), (102, bx 70 t69 ((false, ([] : List Int)), (false, ([] : List Int))))]⟩ (aC (c127 h_y1) aN) ?_
 refine Run.cd (y1 == (0 : Int)) (fun hb => ?_) (fun hb => ?_)
 ·replace h := bif_t h hb
  refine qN [] 300 ⟨[(4, .ptr 102 0), (5, .d t2 (6 : Int))], [(102, bx 70 t69 ((false, ([] : List Int)), (false, ([] : List Int))))]⟩ aN ?_
  refine Run.rt ?_
  obtain rfl := sI h
  exact qR [(.d t69 ((false, ([] : List Int)), (false, ([] : List Int)))), (.d t2 (6 : Int))]
 ·replace h := bif_f h hb
  refine Run.sk ?_
  show Run Pg 13 _ _ _
  obtain ⟨y2, h_y2, h⟩ := bnd_elim h
  refine qN [(2, .call (.d t69 y2))] 400 ⟨[(4, .ptr 102 0), (5, .d t2 (0 : Int))], [(102, bx 70 t69 y2)]⟩ (aC (c79 h_y2) aN) ?_
  refine Run.rt ?_
  obtain rfl := sI h
  exact qR [(.d t69 y2), (.d t2 (0 : Int))]

/-! ## f165 -/
noncomputable def c_165 : Code := body0 Go.Proofs.Tryz.f165
def fin165 (r : RatL × Int) : Ex → St → Prop := endK X0 [.cell 4 70, .tmp 5] [70, 26] (.tup (.vcons (.d t69 r.1) (.vcons (.d t2 r.2) .vnil)))
def F165 (a0 : RatL) (a1 : RatL) : Option (RatL × Int) :=
 (F48 a0.1 a1.2).bind fun y1 =>
 (F48 a0.2 a1.1).bind fun y2 =>
 (F203 y1 y2).bind fun y3 =>
 some (y3.1, y3.2)
theorem c165 {a0 : RatL} {a1 : RatL} {r : RatL × Int} (h : F165 a0 a1 = some r) : CallPure Pg 165 [(.d t69 a0), (.d t69 a1)] (.tup (.vcons (.d t69 r.1) (.vcons (.d t2 r.2) .vnil))) := by
 refine qC c_165 19 [.cell 4 70, .tmp 5] [70, 26] Go.Proofs.Tryz.func165 ?_
 show Run Pg 19 c_165 ⟨[(0, .d t69 a0), (1, .d t69 a1)], []⟩ (fin165 r)
 unfold F165 at h
 refine qN [] 100 ⟨[(2, .ptr 100 0), (3, .ptr 101 0), (4, .ptr 102 0)], [(100, bx 70 t69 a0), (101, bx 70 t69 a1), (102, bx 70 t69 ((false, ([] : List Int)), (false, ([] : List Int))))]⟩ aN ?_
 obtain ⟨y1, h_y1, h⟩ := bnd_elim h
 obtain ⟨y2, h_y2, h⟩ := bnd_elim h
 obtain ⟨y3, h_y3, h⟩ := bnd_elim h
 refine qN [(4, .call (.d t67 y1)), (9, .call (.d t67 y2)), (10, .call (.tup (.vcons (.d t69 y3.1) (.vcons (.d t2 y3.2) .vnil))))] 200 ⟨[(4, .ptr 102 0), (5, .d t2 y3.2)], [(102, bx 70 t69 y3.1)]⟩ (aC (c48 h_y1) (aC (c48 h_y2) (aC (c203 h_y3) aN))) ?_
 refine Run.rt ?_
 obtain rfl := sI h
 exact qR [(.d t69 y3.1), (.d t2 y3.2)]

/-! ## f125 -/
noncomputable def c_125 : Code := body0 Go.Proofs.Tryz.f125
def fin125 (r : RatL) : Ex → St → Prop := endK X0 [.cell 4 70] [70] (.d t69 r)
def F125 (a0 : RatL) (a1 : RatL) : Option RatL :=
 (F165 a0 a1).bind fun y1 =>
 some y1.1
theorem c125 {a0 : RatL} {a1 : RatL} {r : RatL} (h : F125 a0 a1 = some r) : CallPure Pg 125 [(.d t69 a0), (.d t69 a1)] (.d t69 r) := by
 refine qC c_125 14 [.cell 4 70] [70] Go.Proofs.Tryz.func125 ?_
 show Run Pg 14 c_125 ⟨[(0, .d t69 a0), (1, .d t69 a1)], []⟩ (fin125 r)
 unfold F125 at h
 refine qN [] 100 ⟨[(2, .ptr 100 0), (3, .ptr 101 0), (4, .ptr 102 0)], [(100, bx 70 t69 a0), (101, bx 70 t69 a1), (102, bx 70 t69 ((false, ([] : List Int)), (false, ([] : List Int))))]⟩ aN ?_
 obtain ⟨y1, h_y1, h⟩ := bnd_elim h
 refine qN [(2, .call (.tup (.vcons (.d t69 y1.1) (.vcons (.d t2 y1.2) .vnil))))] 200 ⟨[(4, .ptr 102 0), (5, .ptr 206 0)], [(102, bx 70 t69 ((false, ([] : List Int)), (false, ([] : List Int)))), (206, bx 70 t69 y1.1)]⟩ (aC (c165 h_y1) aN) ?_
 refine qN [] 300 ⟨[(4, .ptr 102 0)], [(102, bx 70 t69 y1.1)]⟩ aN ?_
 refine Run.rt ?_
 obtain rfl := sI h
 exact qR [(.d t69 y1.1)]

/-! ## f78 -/
noncomputable def c_78 : Code := body0 Go.Proofs.Tryz.f78
def fin78 (r : RatL) : Ex → St → Prop := endK X0 [.cell 6 70] [70] (.d t69 r)
def F78 (a0 : RatL × RatL) (a1 : RatL × RatL) (a2 : RatL × RatL) : Option RatL :=
 (F123 a0 a1).bind fun y1 =>
 (F123 a0 a2).bind fun y2 =>
 (F124 y1 y1).bind fun y3 =>
 (F124 y1 y2).bind fun y4 =>
 (F121 y4).bind fun y5 =>
 (bif (decide (y5 ≤ (0 : Int))) then
 (F124 y2 y2).bind fun y6 =>
 some y6
 else
 (F32 y4 y3).bind fun y7 =>
 (bif (decide ((0 : Int) ≤ y7)) then
 (F123 a1 a2).bind fun y8 =>
 (F124 y8 y8).bind fun y9 =>
 some y9
 else
 (F122 y1 y2).bind fun y10 =>
 (F126 y10 y10).bind fun y11 =>
 (F125 y11 y3).bind fun y12 =>
 some y12))
theorem c78 {a0 : RatL × RatL} {a1 : RatL × RatL} {a2 : RatL × RatL} {r : RatL} (h : F78 a0 a1 a2 = some r) : CallPure Pg 78 [(.d t86 a0), (.d t86 a1), (.d t86 a2)] (.d t69 r) := by
 refine qC c_78 49 [.cell 6 70] [70] Go.Proofs.Tryz.func78 ?_
 show Run Pg 49 c_78 ⟨[(0, .d t86 a0), (1, .d t86 a1), (2, .d t86 a2)], []⟩ (fin78 r)
 unfold F78 at h
 refine qN [] 100 ⟨[(3, .ptr 100 0), (4, .ptr 101 0), (5, .ptr 102 0), (6, .ptr 103 0)], [(100, bx 87 t86 a0), (101, bx 87 t86 a1), (102, bx 87 t86 a2), (103, bx 70 t69 ((false, ([] : List Int)), (false, ([] : List Int))))]⟩ aN ?_
 obtain ⟨y1, h_y1, h⟩ := bnd_elim h
 obtain ⟨y2, h_y2, h⟩ := bnd_elim h
 refine qN [(2, .call (.d t86 y1)), (5, .call (.d t86 y2))] 200 ⟨[(4, .ptr 101 0), (5, .ptr 102 0), (6, .ptr 103 0), (7, .ptr 206 0), (8, .ptr 207 0)], [(101, bx 87 t86 a1), (102, bx 87 t86 a2), (103, bx 70 t69 ((false, ([] : List Int)), (false, ([] : List Int)))), (206, bx 87 t86 y1), (207, bx 87 t86 y2)]⟩ (aC (c123 h_y1) (aC (c123 h_y2) aN)) ?_
 obtain ⟨y3, h_y3, h⟩ := bnd_elim h
 obtain ⟨y4, h_y4, h⟩ := bnd_elim h
 refine qN [(2, .call (.d t69 y3)), (5, .call (.d t69 y4))] 300 ⟨[(4, .ptr 101 0), (5, .ptr 102 0), (6, .ptr 103 0), (7, .ptr 206 0), (8, .ptr 207 0), (9, .ptr 306 0), (10, .ptr 307 0)], [(101, bx 87 t86 a1), (102, bx 87 t86 a2), (103, bx 70 t69 ((false, ([] : List Int)), (false, ([] : List Int)))), (206, bx 87 t86 y1), (207, bx 87 t86 y2), (306, bx 70 t69 y3), (307, bx 70 t69 y4)]⟩ (aC (c124 h_y3) (aC (c124 h_y4) aN)) ?_
 refine Run.sq ?_
 obtain ⟨y5, h_y5, h⟩ := bnd_elim h
 refine qN [(1, .call (.d t2 y5))] 400 ⟨[(4, .ptr 101 0), (5, .ptr 102 0), (6, .ptr 103 0), (7, .ptr 206 0), (8, .ptr 207 0), (9, .ptr 306 0), (10, .ptr 307 0), (27, .d t4 (decide (y5 ≤ (0 : Int))))], [(101, bx 87 t86 a1), (102, bx 87 t86 a2), (103, bx 70 t69 ((false, ([] : List Int)), (false, ([] : List Int)))), (206, bx 87 t86 y1), (207, bx 87 t86 y2), (306, bx 70 t69 y3), (307, bx 70 t69 y4)]⟩ (aC (c121 h_y5) aN) ?_
 refine Run.cd (decide (y5 ≤ (0 : Int))) (fun hb => ?_) (fun hb => ?_)
 ·replace h := bif_t h hb
  obtain ⟨y6, h_y6, h⟩ := bnd_elim h
  refine qN [(2, .call (.d t69 y6))] 500 ⟨[(6, .ptr 103 0)], [(103, bx 70 t69 y6)]⟩ (aC (c124 h_y6) aN) ?_
  refine Run.rt ?_
  obtain rfl := sI h
  exact qR [(.d t69 y6)]
 ·replace h := bif_f h hb
  refine Run.sk ?_
  show Run Pg 49 _ _ _
  refine Run.sq ?_
  obtain ⟨y7, h_y7, h⟩ := bnd_elim h
  refine qN [(2, .call (.d t2 y7))] 600 ⟨[(4, .ptr 101 0), (5, .ptr 102 0), (6, .ptr 103 0), (7, .ptr 206 0), (8, .ptr 207 0), (9, .ptr 306 0), (34, .d t4 (decide ((0 : Int) ≤ y7)))], [(101, bx 87 t86 a1), (102, bx 87 t86 a2), (103, bx 70 t69 ((false, ([] : List Int)), (false, ([] : List Int)))), (206, bx 87 t86 y1), (207, bx 87 t86 y2), (306, bx 70 t69 y3)]⟩ (aC (c32 h_y7) aN) ?_
  refine Run.cd (decide ((0 : Int) ≤ y7)) (fun hb => ?_) (fun hb => ?_)
  ·replace h := bif_t h hb
   obtain ⟨y8, h_y8, h⟩ := bnd_elim h
   refine qN [(2, .call (.d t86 y8))] 700 ⟨[(6, .ptr 103 0), (11, .ptr 703 0)], [(103, bx 70 t69 ((false, ([] : List Int)), (false, ([] : List Int)))), (703, bx 87 t86 y8)]⟩ (aC (c123 h_y8) aN) ?_
   obtain ⟨y9, h_y9, h⟩ := bnd_elim h
   refine qN [(2, .call (.d t69 y9))] 800 ⟨[(6, .ptr 103 0)], [(103, bx 70 t69 y9)]⟩ (aC (c124 h_y9) aN) ?_
   refine Run.rt ?_
   obtain rfl := sI h
   exact qR [(.d t69 y9)]
  ·replace h := bif_f h hb
   refine Run.sk ?_
   show Run Pg 49 _ _ _
   obtain ⟨y10, h_y10, h⟩ := bnd_elim h
   refine qN [(2, .call (.d t69 y10))] 900 ⟨[(6, .ptr 103 0), (9, .ptr 306 0), (12, .ptr 903 0)], [(103, bx 70 t69 ((false, ([] : List Int)), (false, ([] : List Int)))), (306, bx 70 t69 y3), (903, bx 70 t69 y10)]⟩ (aC (c122 h_y10) aN) ?_
   obtain ⟨y11, h_y11, h⟩ := bnd_elim h
   obtain ⟨y12, h_y12, h⟩ := bnd_elim h
   refine qN [(2, .call (.d t69 y11)), (4, .call (.d t69 y12))] 1000 ⟨[(6, .ptr 103 0)], [(103, bx 70 t69 y12)]⟩ (aC (c126 h_y11) (aC (c125 h_y12) aN)) ?_
   refine Run.rt ?_
   obtain rfl := sI h
   exact qR [(.d t69 y12)]

/-! ## f51 -/
noncomputable def c_51 : Code := body0 Go.Proofs.Tryz.f51
def fin51 (r : RatL) : Ex → St → Prop := endK X0 [.cell 8 70] [70] (.d t69 r)
def f51_c1_post (x19 : List RatL) (x20 : Int) (x21 : Bool) (x22 : RatL) (x23 : RatL) : RatL → Ex → St → Prop
 | o, x, s => x = .nrm ∧ s = ⟨[(8, .ptr 104 0), (9, .ptr 404 0), (10, .d t119 x19), (11, .d t2 x20)], [(104, bx 70 t69 x22), (404, bx 70 t69 o)]⟩
def f51_c1 (x19 : List RatL) (x20 : Int) (x21 : Bool) (x23 : RatL) : Option RatL :=
 (bif x21 then
 gd (0 ≤ x20) <|
 gd (x20 < ((List.length x19 : Nat) : Int)) <|
 some (List.getD x19 (toN x20) ((false, ([] : List Int)), (false, ([] : List Int))))
 else
 some x23)
theorem f51_c1_ok (x19 : List RatL) (x20 : Int) (x21 : Bool) (x22 : RatL) (x23 : RatL) {out : RatL} (h : f51_c1 x19 x20 x21 x23 = some out) : Run Pg 53 (sq2 (bk1 (sq1 (sq2 (lp1 (bk1 (sq2 (sq1 (sq2 (sq2 (sq2 (sq2 c_51)))))))))))) ⟨[(8, .ptr 104 0), (9, .ptr 404 0), (10, .d t119 x19), (11, .d t2 x20), (47, .d t4 x21)], [(104, bx 70 t69 x22), (404, bx 70 t69 x23)]⟩ (f51_c1_post x19 x20 x21 x22 x23 out) := by
 unfold f51_c1 at h
 refine Run.cd x21 (fun hb => ?_) (fun hb => ?_)
 ·replace h := bif_t h hb
  obtain ⟨g_0, h⟩ := gd_elim h
  obtain ⟨g_1, h⟩ := gd_elim h
  refine qE [] 1000 ⟨[(8, .ptr 104 0), (9, .ptr 404 0), (10, .d t119 x19), (11, .d t2 x20)], [(104, bx 70 t69 x22), (404, bx 70 t69 (List.getD x19 (toN x20) ((false, ([] : List Int)), (false, ([] : List Int)))))]⟩ (aC g_0 (aC g_1 aN)) ?_
  obtain rfl := sI h
  exact ⟨rfl, by kernel_rfl⟩
 ·replace h := bif_f h hb
  refine qK ⟨[(8, .ptr 104 0), (9, .ptr 404 0), (10, .d t119 x19), (11, .d t2 x20)], [(104, bx 70 t69 x22), (404, bx 70 t69 x23)]⟩ ?_
  refine Run.sk ?_
  obtain rfl := sI h
  exact ⟨rfl, by kernel_rfl⟩
def f51_l0_post (x7 : List RatL) (x9 : RatL) : RatL → Ex → St → Prop
 | o, x, s => x = .out 0 ∧ s = ⟨[(8, .ptr 104 0), (9, .ptr 404 0)], [(104, bx 70 t69 x9), (404, bx 70 t69 o)]⟩
def f51_l0_b (x7 : List RatL) (again : Int × RatL → Option RatL) : Int × RatL → Option RatL
 | (x8, x10) =>
 (bif (decide (x8 < (ofN (List.length x7)))) then
 gd (0 ≤ x8) <|
 gd (x8 < ((List.length x7 : Nat) : Int)) <|
 (F32 (List.getD x7 (toN x8) ((false, ([] : List Int)), (false, ([] : List Int)))) x10).bind fun y18 =>
 ((f51_c1 x7 x8 (decide (y18 < (0 : Int))) x10).bind fun o24 =>
 again ((wrapI .i64 (x8 + (1 : Int))), o24))
 else
 some x10)
def f51_l0 (x7 : List RatL) : Nat → Int × RatL → Option RatL := loopF (f51_l0_b x7)
theorem f51_l0_ok (x7 : List RatL) (x9 : RatL) (k : Nat) (x8 : Int) (x10 : RatL) {out : RatL} (h : f51_l0 x7 k (x8, x10) = some out) : Run Pg 53 (bk1 (sq2 (sq1 (sq2 (sq2 (sq2 (sq2 c_51))))))) ⟨[(8, .ptr 104 0), (9, .ptr 404 0), (10, .d t119 x7), (11, .d t2 x8)], [(104, bx 70 t69 x9), (404, bx 70 t69 x10)]⟩ (f51_l0_post x7 x9 out) := by
 refine Run.loopN (by kernel_rfl) (fun m s => ∃ x8 x10, s = ⟨[(8, .ptr 104 0), (9, .ptr 404 0), (10, .d t119 x7), (11, .d t2 x8)], [(104, bx 70 t69 x9), (404, bx 70 t69 x10)]⟩ ∧ f51_l0 x7 m (x8, x10) = some out) ?_ k ⟨x8, x10,  rfl, h⟩
 rintro m s ⟨x8, x10,  rfl, h⟩
 cases m with
 | zero => cases h
 | succ m =>
 replace h : f51_l0_b x7 (f51_l0 x7 m) (x8, x10) = some out := h
 unfold f51_l0_b at h
 refine Run.sq ?_
 refine qN [] 700 ⟨[(8, .ptr 104 0), (9, .ptr 404 0), (10, .d t119 x7), (11, .d t2 x8), (38, .d t4 (decide (x8 < (ofN (List.length x7)))))], [(104, bx 70 t69 x9), (404, bx 70 t69 x10)]⟩ aN ?_
 refine Run.cd (decide (x8 < (ofN (List.length x7)))) (fun hb => ?_) (fun hb => ?_)
 ·replace h := bif_t h hb
  refine Run.sk ?_
  show Run Pg 53 _ _ _
  refine Run.sq ?_
  refine Run.bl 1 ?_
  obtain ⟨g_0, h⟩ := gd_elim h
  obtain ⟨g_1, h⟩ := gd_elim h
  obtain ⟨y18, h_y18, h⟩ := bnd_elim h
  refine qN [(5, .call (.d t2 y18))] 900 ⟨[(8, .ptr 104 0), (9, .ptr 404 0), (10, .d t119 x7), (11, .d t2 x8), (47, .d t4 (decide (y18 < (0 : Int))))], [(104, bx 70 t69 x9), (404, bx 70 t69 x10)]⟩ (aC g_0 (aC g_1 (aC (c32 h_y18) aN))) ?_
  obtain ⟨o24, h_o24, h⟩ := bnd_elim h
  refine Run.mono (f51_c1_ok x7 x8 (decide (y18 < (0 : Int))) x9 x10 h_o24) ?_
  rintro _ _ ⟨rfl, rfl⟩
  show Run Pg 53 _ _ _
  refine qE [] 800 ⟨[(8, .ptr 104 0), (9, .ptr 404 0), (10, .d t119 x7), (11, .d t2 (wrapI .i64 (x8 + (1 : Int))))], [(104, bx 70 t69 x9), (404, bx 70 t69 o24)]⟩ aN ?_
  exact ⟨m, Nat.lt_succ_self m, _, _, rfl, h⟩
 ·replace h := bif_f h hb
  refine qK ⟨[(8, .ptr 104 0), (9, .ptr 404 0)], [(104, bx 70 t69 x9), (404, bx 70 t69 x10)]⟩ ?_
  refine Run.ex 0 ?_
  obtain rfl := sI h
  exact ⟨rfl, by kernel_rfl⟩
def F51 (a0 : RatL × RatL) (a1 : RatL × RatL) (a2 : RatL × RatL) (a3 : RatL × RatL) : Option RatL :=
 (F77 a0 a1 a2 a3).bind fun y1 =>
 (bif y1 then
 (F35 (0 : Int)).bind fun y2 =>
 some y2
 else
 (F78 a0 a1 a2).bind fun y3 =>
 (F78 a0 a1 a3).bind fun y4 =>
 (F78 a2 a3 a0).bind fun y5 =>
 (F78 a2 a3 a1).bind fun y6 =>
 ((f51_l0 ([y4, y5, y6] : List RatL) (2 + List.length ([y4, y5, y6] : List RatL)) ((0 : Int), y3)).bind fun o25 =>
 some o25))
theorem c51 {a0 : RatL × RatL} {a1 : RatL × RatL} {a2 : RatL × RatL} {a3 : RatL × RatL} {r : RatL} (h : F51 a0 a1 a2 a3 = some r) : CallPure Pg 51 [(.d t86 a0), (.d t86 a1), (.d t86 a2), (.d t86 a3)] (.d t69 r) := by
 refine qC c_51 53 [.cell 8 70] [70] Go.Proofs.Tryz.func51 ?_
 show Run Pg 53 c_51 ⟨[(0, .d t86 a0), (1, .d t86 a1), (2, .d t86 a2), (3, .d t86 a3)], []⟩ (fin51 r)
 unfold F51 at h
 refine qN [] 100 ⟨[(4, .ptr 100 0), (5, .ptr 101 0), (6, .ptr 102 0), (7, .ptr 103 0), (8, .ptr 104 0)], [(100, bx 87 t86 a0), (101, bx 87 t86 a1), (102, bx 87 t86 a2), (103, bx 87 t86 a3), (104, bx 70 t69 ((false, ([] : List Int)), (false, ([] : List Int))))]⟩ aN ?_
 refine Run.sq ?_
 obtain ⟨y1, h_y1, h⟩ := bnd_elim h
 refine qN [(4, .call (.d t4 y1))] 200 ⟨[(4, .ptr 100 0), (5, .ptr 101 0), (6, .ptr 102 0), (7, .ptr 103 0), (8, .ptr 104 0), (16, .d t4 y1)], [(100, bx 87 t86 a0), (101, bx 87 t86 a1), (102, bx 87 t86 a2), (103, bx 87 t86 a3), (104, bx 70 t69 ((false, ([] : List Int)), (false, ([] : List Int))))]⟩ (aC (c77 h_y1) aN) ?_
 refine Run.cd y1 (fun hb => ?_) (fun hb => ?_)
 ·replace h := bif_t h hb
  obtain ⟨y2, h_y2, h⟩ := bnd_elim h
  refine qN [(0, .call (.d t69 y2))] 300 ⟨[(8, .ptr 104 0)], [(104, bx 70 t69 y2)]⟩ (aC (c35 h_y2) aN) ?_
  refine Run.rt ?_
  obtain rfl := sI h
  exact qR [(.d t69 y2)]
 ·replace h := bif_f h hb
  refine Run.sk ?_
  show Run Pg 53 _ _ _
  obtain ⟨y3, h_y3, h⟩ := bnd_elim h
  refine qN [(3, .call (.d t69 y3))] 400 ⟨[(4, .ptr 100 0), (5, .ptr 101 0), (6, .ptr 102 0), (7, .ptr 103 0), (8, .ptr 104 0), (9, .ptr 404 0)], [(100, bx 87 t86 a0), (101, bx 87 t86 a1), (102, bx 87 t86 a2), (103, bx 87 t86 a3), (104, bx 70 t69 ((false, ([] : List Int)), (false, ([] : List Int)))), (404, bx 70 t69 y3)]⟩ (aC (c78 h_y3) aN) ?_
  obtain ⟨y4, h_y4, h⟩ := bnd_elim h
  obtain ⟨y5, h_y5, h⟩ := bnd_elim h
  obtain ⟨y6, h_y6, h⟩ := bnd_elim h
  refine qN [(3, .call (.d t69 y4)), (7, .call (.d t69 y5)), (11, .call (.d t69 y6))] 500 ⟨[(8, .ptr 104 0), (9, .ptr 404 0), (10, .d t119 ([y4, y5, y6] : List RatL))], [(104, bx 70 t69 ((false, ([] : List Int)), (false, ([] : List Int)))), (404, bx 70 t69 y3)]⟩ (aC (c78 h_y4) (aC (c78 h_y5) (aC (c78 h_y6) aN))) ?_
  refine Run.sq ?_
  refine qN [] 600 ⟨[(8, .ptr 104 0), (9, .ptr 404 0), (10, .d t119 ([y4, y5, y6] : List RatL)), (11, .d t2 (0 : Int))], [(104, bx 70 t69 ((false, ([] : List Int)), (false, ([] : List Int)))), (404, bx 70 t69 y3)]⟩ aN ?_
  refine Run.bl 0 ?_
  obtain ⟨o25, h_o25, h⟩ := bnd_elim h
  refine Run.mono (f51_l0_ok ([y4, y5, y6] : List RatL) ((false, ([] : List Int)), (false, ([] : List Int))) _ (0 : Int) y3 h_o25) ?_
  rintro _ _ ⟨rfl, rfl⟩
  show Run Pg 53 _ _ _
  refine qN [] 1100 ⟨[(8, .ptr 104 0)], [(104, bx 70 t69 o25)]⟩ aN ?_
  refine Run.rt ?_
  obtain rfl := sI h
  exact qR [(.d t69 o25)]

/-! ## f33 -/
noncomputable def c_33 : Code := body0 Go.Proofs.Tryz.f33
def fin33 (r : RatL) : Ex → St → Prop := endK X0 [.cell 6 70] [70] (.d t69 r)
def f33_c1_post (x32 : List (RatL × RatL)) (x33 : Int) (x34 : Bool) (x35 : Int × Int) (x36 : Int × Int) (x37 : RatL) (x38 : RatL) (x39 : RatL) : RatL → Ex → St → Prop
 | o, x, s => x = .nrm ∧ s = ⟨[(4, .ptr 101 0), (5, .ptr 102 0), (6, .ptr 103 0), (7, .d t89 x32), (8, .ptr 500 0), (9, .d t2 x33)], [(101, bx 32 t31 x35), (102, bx 32 t31 x36), (103, bx 70 t69 x37), (500, bx 70 t69 o)]⟩
def f33_c1 (x34 : Bool) (x38 : RatL) (x39 : RatL) : Option RatL :=
 (bif x34 then
 some x39
 else
 some x38)
theorem f33_c1_ok (x32 : List (RatL × RatL)) (x33 : Int) (x34 : Bool) (x35 : Int × Int) (x36 : Int × Int) (x37 : RatL) (x38 : RatL) (x39 : RatL) {out : RatL} (h : f33_c1 x34 x38 x39 = some out) : Run Pg 76 (sq2 (sq2 (bk1 (sq1 (sq2 (lp1 (bk1 (sq2 (sq1 (sq2 (sq2 (sq2 (sq2 c_33))))))))))))) ⟨[(4, .ptr 101 0), (5, .ptr 102 0), (6, .ptr 103 0), (7, .d t89 x32), (8, .ptr 500 0), (9, .d t2 x33), (10, .ptr 921 0), (73, .d t4 x34)], [(101, bx 32 t31 x35), (102, bx 32 t31 x36), (103, bx 70 t69 x37), (500, bx 70 t69 x38), (921, bx 70 t69 x39)]⟩ (f33_c1_post x32 x33 x34 x35 x36 x37 x38 x39 out) := by
 unfold f33_c1 at h
 refine Run.cd x34 (fun hb => ?_) (fun hb => ?_)
 ·replace h := bif_t h hb
  refine qE [] 1100 ⟨[(4, .ptr 101 0), (5, .ptr 102 0), (6, .ptr 103 0), (7, .d t89 x32), (8, .ptr 500 0), (9, .d t2 x33)], [(101, bx 32 t31 x35), (102, bx 32 t31 x36), (103, bx 70 t69 x37), (500, bx 70 t69 x39)]⟩ aN ?_
  obtain rfl := sI h
  exact ⟨rfl, by kernel_rfl⟩
 ·replace h := bif_f h hb
  refine qK ⟨[(4, .ptr 101 0), (5, .ptr 102 0), (6, .ptr 103 0), (7, .d t89 x32), (8, .ptr 500 0), (9, .d t2 x33)], [(101, bx 32 t31 x35), (102, bx 32 t31 x36), (103, bx 70 t69 x37), (500, bx 70 t69 x38)]⟩ ?_
  refine Run.sk ?_
  obtain rfl := sI h
  exact ⟨rfl, by kernel_rfl⟩
def f33_l0_post (x9 : List (RatL × RatL)) (x11 : Int × Int) (x12 : Int × Int) (x13 : RatL) : RatL → Ex → St → Prop
 | o, x, s => x = .out 0 ∧ s = ⟨[(6, .ptr 103 0), (8, .ptr 500 0)], [(103, bx 70 t69 x13), (500, bx 70 t69 o)]⟩
def f33_l0_b (x9 : List (RatL × RatL)) (x11 : Int × Int) (x12 : Int × Int) (again : Int × RatL → Option RatL) : Int × RatL → Option RatL
 | (x10, x14) =>
 (bif (decide (x10 < (4 : Int))) then
 (F50 x11.1 x11.2).bind fun y28 =>
 (F50 x12.1 x12.2).bind fun y29 =>
 gd (0 ≤ x10) <|
 gd (x10 < ((List.length x9 : Nat) : Int)) <|
 gd (0 ≤ (Int.tmod (wrapI .i64 (x10 + (1 : Int))) (4 : Int))) <|
 gd ((Int.tmod (wrapI .i64 (x10 + (1 : Int))) (4 : Int)) < ((List.length x9 : Nat) : Int)) <|
 (F51 y28 y29 (List.getD x9 (toN x10) (((false, ([] : List Int)), (false, ([] : List Int))), ((false, ([] : List Int)), (false, ([] : List Int))))) (List.getD x9 (toN (Int.tmod (wrapI .i64 (x10 + (1 : Int))) (4 : Int))) (((false, ([] : List Int)), (false, ([] : List Int))), ((false, ([] : List Int)), (false, ([] : List Int)))))).bind fun y30 =>
 (bif (x10 == (0 : Int)) then
 again ((wrapI .i64 (x10 + (1 : Int))), y30)
 else
 (F32 y30 x14).bind fun y31 =>
 ((f33_c1 (decide (y31 < (0 : Int))) x14 y30).bind fun o40 =>
 again ((wrapI .i64 (x10 + (1 : Int))), o40)))
 else
 some x14)
def f33_l0 (x9 : List (RatL × RatL)) (x11 : Int × Int) (x12 : Int × Int) : Nat → Int × RatL → Option RatL := loopF (f33_l0_b x9 x11 x12)
theorem f33_l0_ok (x9 : List (RatL × RatL)) (x11 : Int × Int) (x12 : Int × Int) (x13 : RatL) (k : Nat) (x10 : Int) (x14 : RatL) {out : RatL} (h : f33_l0 x9 x11 x12 k (x10, x14) = some out) : Run Pg 76 (bk1 (sq2 (sq1 (sq2 (sq2 (sq2 (sq2 c_33))))))) ⟨[(4, .ptr 101 0), (5, .ptr 102 0), (6, .ptr 103 0), (7, .d t89 x9), (8, .ptr 500 0), (9, .d t2 x10)], [(101, bx 32 t31 x11), (102, bx 32 t31 x12), (103, bx 70 t69 x13), (500, bx 70 t69 x14)]⟩ (f33_l0_post x9 x11 x12 x13 out) := by
 refine Run.loopN (by kernel_rfl) (fun m s => ∃ x10 x14, s = ⟨[(4, .ptr 101 0), (5, .ptr 102 0), (6, .ptr 103 0), (7, .d t89 x9), (8, .ptr 500 0), (9, .d t2 x10)], [(101, bx 32 t31 x11), (102, bx 32 t31 x12), (103, bx 70 t69 x13), (500, bx 70 t69 x14)]⟩ ∧ f33_l0 x9 x11 x12 m (x10, x14) = some out) ?_ k ⟨x10, x14,  rfl, h⟩
 rintro m s ⟨x10, x14,  rfl, h⟩
 cases m with
 | zero => cases h
 | succ m =>
 replace h : f33_l0_b x9 x11 x12 (f33_l0 x9 x11 x12 m) (x10, x14) = some out := h
 unfold f33_l0_b at h
 refine Run.sq ?_
 refine qN [] 700 ⟨[(4, .ptr 101 0), (5, .ptr 102 0), (6, .ptr 103 0), (7, .d t89 x9), (8, .ptr 500 0), (9, .d t2 x10), (42, .d t4 (decide (x10 < (4 : Int))))], [(101, bx 32 t31 x11), (102, bx 32 t31 x12), (103, bx 70 t69 x13), (500, bx 70 t69 x14)]⟩ aN ?_
 refine Run.cd (decide (x10 < (4 : Int))) (fun hb => ?_) (fun hb => ?_)
 ·replace h := bif_t h hb
  refine Run.sk ?_
  show Run Pg 76 _ _ _
  refine Run.sq ?_
  refine Run.bl 1 ?_
  obtain ⟨y28, h_y28, h⟩ := bnd_elim h
  obtain ⟨y29, h_y29, h⟩ := bnd_elim h
  obtain ⟨g_2, h⟩ := gd_elim h
  obtain ⟨g_3, h⟩ := gd_elim h
  obtain ⟨g_5, h⟩ := gd_elim h
  obtain ⟨g_6, h⟩ := gd_elim h
  obtain ⟨y30, h_y30, h⟩ := bnd_elim h
  refine qN [(4, .call (.d t86 y28)), (9, .call (.d t86 y29)), (20, .call (.d t69 y30))] 900 ⟨[(4, .ptr 101 0), (5, .ptr 102 0), (6, .ptr 103 0), (7, .d t89 x9), (8, .ptr 500 0), (9, .d t2 x10), (10, .ptr 921 0)], [(101, bx 32 t31 x11), (102, bx 32 t31 x12), (103, bx 70 t69 x13), (500, bx 70 t69 x14), (921, bx 70 t69 y30)]⟩ (aC (c50 h_y28) (aC (c50 h_y29) (aC g_2 (aC g_3 (aC (show ((4 : Int) ≠ 0) from (by decide)) (aC g_5 (aC g_6 (aC (c51 h_y30) aN)))))))) ?_
  rcases bif_elim h with ⟨hb0, h⟩ | ⟨hb0, h⟩
  ·refine qN [(2, .b true)] 1000 ⟨[(4, .ptr 101 0), (5, .ptr 102 0), (6, .ptr 103 0), (7, .d t89 x9), (8, .ptr 500 0), (9, .d t2 x10), (10, .ptr 921 0), (73, .d t4 true)], [(101, bx 32 t31 x11), (102, bx 32 t31 x12), (103, bx 70 t69 x13), (500, bx 70 t69 x14), (921, bx 70 t69 y30)]⟩ (aC hb0 aN) ?_
   refine Run.cd true (fun hb => ?_) (fun hb => (by cases hb))
   refine qE [] 1100 ⟨[(4, .ptr 101 0), (5, .ptr 102 0), (6, .ptr 103 0), (7, .d t89 x9), (8, .ptr 500 0), (9, .d t2 x10)], [(101, bx 32 t31 x11), (102, bx 32 t31 x12), (103, bx 70 t69 x13), (500, bx 70 t69 y30)]⟩ aN ?_
   show Run Pg 76 _ _ _
   refine qE [] 800 ⟨[(4, .ptr 101 0), (5, .ptr 102 0), (6, .ptr 103 0), (7, .d t89 x9), (8, .ptr 500 0), (9, .d t2 (wrapI .i64 (x10 + (1 : Int))))], [(101, bx 32 t31 x11), (102, bx 32 t31 x12), (103, bx 70 t69 x13), (500, bx 70 t69 y30)]⟩ aN ?_
   exact ⟨m, Nat.lt_succ_self m, _, _, rfl, h⟩
  ·obtain ⟨y31, h_y31, h⟩ := bnd_elim h
   refine qN [(2, .b false), (5, .call (.d t2 y31))] 1000 ⟨[(4, .ptr 101 0), (5, .ptr 102 0), (6, .ptr 103 0), (7, .d t89 x9), (8, .ptr 500 0), (9, .d t2 x10), (10, .ptr 921 0), (73, .d t4 (decide (y31 < (0 : Int))))], [(101, bx 32 t31 x11), (102, bx 32 t31 x12), (103, bx 70 t69 x13), (500, bx 70 t69 x14), (921, bx 70 t69 y30)]⟩ (aC hb0 (aC (c32 h_y31) aN)) ?_
   obtain ⟨o40, h_o40, h⟩ := bnd_elim h
   refine Run.mono (f33_c1_ok x9 x10 (decide (y31 < (0 : Int))) x11 x12 x13 x14 y30 h_o40) ?_
   rintro _ _ ⟨rfl, rfl⟩
   show Run Pg 76 _ _ _
   refine qE [] 800 ⟨[(4, .ptr 101 0), (5, .ptr 102 0), (6, .ptr 103 0), (7, .d t89 x9), (8, .ptr 500 0), (9, .d t2 (wrapI .i64 (x10 + (1 : Int))))], [(101, bx 32 t31 x11), (102, bx 32 t31 x12), (103, bx 70 t69 x13), (500, bx 70 t69 o40)]⟩ aN ?_
   exact ⟨m, Nat.lt_succ_self m, _, _, rfl, h⟩
 ·replace h := bif_f h hb
  refine qK ⟨[(6, .ptr 103 0), (8, .ptr 500 0)], [(103, bx 70 t69 x13), (500, bx 70 t69 x14)]⟩ ?_
  refine Run.ex 0 ?_
  obtain rfl := sI h
  exact ⟨rfl, by kernel_rfl⟩
def F33 (a0 : Int × Int × Int × Int × Int) (a1 : Int × Int) (a2 : Int × Int) : Option RatL :=
 (F49 a0 a1).bind fun y1 =>
 (bif y1 then
 (F35 (0 : Int)).bind fun y3 =>
 some y3
 else
 (F49 a0 a2).bind fun y2 =>
 (bif y2 then
 (F35 (0 : Int)).bind fun y4 =>
 some y4
 else
 (F50 a0.1 a0.2.1).bind fun y5 =>
 (F50 a0.2.2.1 a0.2.1).bind fun y6 =>
 (F50 a0.2.2.1 a0.2.2.2.1).bind fun y7 =>
 (F50 a0.1 a0.2.2.2.1).bind fun y8 =>
 ((f33_l0 ([y5, y6, y7, y8] : List (RatL × RatL)) a1 a2 (2 + List.length ([y5, y6, y7, y8] : List (RatL × RatL))) ((0 : Int), ((false, ([] : List Int)), (false, ([] : List Int))))).bind fun o41 =>
 some o41)))
theorem c33 {a0 : Int × Int × Int × Int × Int} {a1 : Int × Int} {a2 : Int × Int} {r : RatL} (h : F33 a0 a1 a2 = some r) : CallPure Pg 33 [(.d t56 a0), (.d t31 a1), (.d t31 a2)] (.d t69 r) := by
 refine qC c_33 76 [.cell 6 70] [70] Go.Proofs.Tryz.func33 ?_
 show Run Pg 76 c_33 ⟨[(0, .d t56 a0), (1, .d t31 a1), (2, .d t31 a2)], []⟩ (fin33 r)
 unfold F33 at h
 refine qN [] 100 ⟨[(3, .ptr 100 0), (4, .ptr 101 0), (5, .ptr 102 0), (6, .ptr 103 0)], [(100, bx 57 t56 a0), (101, bx 32 t31 a1), (102, bx 32 t31 a2), (103, bx 70 t69 ((false, ([] : List Int)), (false, ([] : List Int))))]⟩ aN ?_
 refine Run.sq ?_
 obtain ⟨y1, h_y1, h⟩ := bnd_elim h
 rcases bif_elim h with ⟨hb1, h⟩ | ⟨hb1, h⟩
 ·refine qN [(2, .call (.d t4 y1)), (3, .b true)] 200 ⟨[(3, .ptr 100 0), (4, .ptr 101 0), (5, .ptr 102 0), (6, .ptr 103 0), (18, .d t4 true)], [(100, bx 57 t56 a0), (101, bx 32 t31 a1), (102, bx 32 t31 a2), (103, bx 70 t69 ((false, ([] : List Int)), (false, ([] : List Int))))]⟩ (aC (c49 h_y1) (aC hb1 aN)) ?_
  refine Run.cd true (fun hb => ?_) (fun hb => (by cases hb))
  obtain ⟨y3, h_y3, h⟩ := bnd_elim h
  refine qN [(0, .call (.d t69 y3))] 300 ⟨[(6, .ptr 103 0)], [(103, bx 70 t69 y3)]⟩ (aC (c35 h_y3) aN) ?_
  refine Run.rt ?_
  obtain rfl := sI h
  exact qR [(.d t69 y3)]
 ·obtain ⟨y2, h_y2, h⟩ := bnd_elim h
  refine qN [(2, .call (.d t4 y1)), (3, .b false), (6, .call (.d t4 y2))] 200 ⟨[(3, .ptr 100 0), (4, .ptr 101 0), (5, .ptr 102 0), (6, .ptr 103 0), (18, .d t4 y2)], [(100, bx 57 t56 a0), (101, bx 32 t31 a1), (102, bx 32 t31 a2), (103, bx 70 t69 ((false, ([] : List Int)), (false, ([] : List Int))))]⟩ (aC (c49 h_y1) (aC hb1 (aC (c49 h_y2) aN))) ?_
  refine Run.cd y2 (fun hb => ?_) (fun hb => ?_)
  ·replace h := bif_t h hb
   obtain ⟨y4, h_y4, h⟩ := bnd_elim h
   refine qN [(0, .call (.d t69 y4))] 300 ⟨[(6, .ptr 103 0)], [(103, bx 70 t69 y4)]⟩ (aC (c35 h_y4) aN) ?_
   refine Run.rt ?_
   obtain rfl := sI h
   exact qR [(.d t69 y4)]
  ·replace h := bif_f h hb
   refine Run.sk ?_
   show Run Pg 76 _ _ _
   obtain ⟨y5, h_y5, h⟩ := bnd_elim h
   obtain ⟨y6, h_y6, h⟩ := bnd_elim h
   obtain ⟨y7, h_y7, h⟩ := bnd_elim h
   obtain ⟨y8, h_y8, h⟩ := bnd_elim h
   refine qN [(4, .call (.d t86 y5)), (9, .call (.d t86 y6)), (14, .call (.d t86 y7)), (19, .call (.d t86 y8))] 400 ⟨[(4, .ptr 101 0), (5, .ptr 102 0), (6, .ptr 103 0), (7, .d t89 ([y5, y6, y7, y8] : List (RatL × RatL)))], [(101, bx 32 t31 a1), (102, bx 32 t31 a2), (103, bx 70 t69 ((false, ([] : List Int)), (false, ([] : List Int))))]⟩ (aC (c50 h_y5) (aC (c50 h_y6) (aC (c50 h_y7) (aC (c50 h_y8) aN)))) ?_
   refine qN [] 500 ⟨[(4, .ptr 101 0), (5, .ptr 102 0), (6, .ptr 103 0), (7, .d t89 ([y5, y6, y7, y8] : List (RatL × RatL))), (8, .ptr 500 0)], [(101, bx 32 t31 a1), (102, bx 32 t31 a2), (103, bx 70 t69 ((false, ([] : List Int)), (false, ([] : List Int)))), (500, bx 70 t69 ((false, ([] : List Int)), (false, ([] : List Int))))]⟩ aN ?_
   refine Run.sq ?_
   refine qN [] 600 ⟨[(4, .ptr 101 0), (5, .ptr 102 0), (6, .ptr 103 0), (7, .d t89 ([y5, y6, y7, y8] : List (RatL × RatL))), (8, .ptr 500 0), (9, .d t2 (0 : Int))], [(101, bx 32 t31 a1), (102, bx 32 t31 a2), (103, bx 70 t69 ((false, ([] : List Int)), (false, ([] : List Int)))), (500, bx 70 t69 ((false, ([] : List Int)), (false, ([] : List Int))))]⟩ aN ?_
   refine Run.bl 0 ?_
   obtain ⟨o41, h_o41, h⟩ := bnd_elim h
   refine Run.mono (f33_l0_ok ([y5, y6, y7, y8] : List (RatL × RatL)) a1 a2 ((false, ([] : List Int)), (false, ([] : List Int))) _ (0 : Int) ((false, ([] : List Int)), (false, ([] : List Int))) h_o41) ?_
   rintro _ _ ⟨rfl, rfl⟩
   show Run Pg 76 _ _ _
   refine qN [] 1200 ⟨[(6, .ptr 103 0)], [(103, bx 70 t69 o41)]⟩ aN ?_
   refine Run.rt ?_
   obtain rfl := sI h
   exact qR [(.d t69 o41)]

/-! ## f34 -/
noncomputable def c_34 : Code := body0 Go.Proofs.Tryz.f34
def fin34 (r : RatL) : Ex → St → Prop := endK X0 [.cell 2 70] [70] (.d t69 r)
def F34 (a0 : RatL) : Option RatL :=
 (F52 a0 a0).bind fun y1 =>
 some y1
theorem c34 {a0 : RatL} {r : RatL} (h : F34 a0 = some r) : CallPure Pg 34 [(.d t69 a0)] (.d t69 r) := by
 refine qC c_34 6 [.cell 2 70] [70] Go.Proofs.Tryz.func34 ?_
 show Run Pg 6 c_34 ⟨[(0, .d t69 a0)], []⟩ (fin34 r)
 unfold F34 at h
 refine qN [] 100 ⟨[(1, .ptr 100 0), (2, .ptr 101 0)], [(100, bx 70 t69 a0), (101, bx 70 t69 ((false, ([] : List Int)), (false, ([] : List Int))))]⟩ aN ?_
 obtain ⟨y1, h_y1, h⟩ := bnd_elim h
 refine qN [(2, .call (.d t69 y1))] 200 ⟨[(2, .ptr 101 0)], [(101, bx 70 t69 y1)]⟩ (aC (c52 h_y1) aN) ?_
 refine Run.rt ?_
 obtain rfl := sI h
 exact qR [(.d t69 y1)]

/-! ## f14 -/
noncomputable def c_14 : Code := body0 Go.Proofs.Tryz.f14
def fin14 (r : Int × Bool) : Ex → St → Prop := endK X0 [.tmp 8, .tmp 9] [2, 4] (.tup (.vcons (.d t2 r.1) (.vcons (.d t4 r.2) .vnil)))
def f14_c1_post (x18 : Int) (x19 : Int) (x20 : Bool) (x21 : Int) (x22 : Bool) (x23 : Int × Int × Int × Int × Int × Int × (List (Int × Int × Int × Int × Int)) × Int) (x24 : Int × Int) (x25 : Int × Int) (x26 : Int × Int × Int × Int × Int) : (Int × Bool) → Ex → St → Prop
 | o, x, s => x = .nrm ∧ s = ⟨[(3, .d t2 x18), (4, .ptr 100 0), (5, .ptr 101 0), (6, .ptr 102 0), (10, .d t2 o.1), (11, .d t4 o.2), (12, .d t2 x21)], [(100, bx 24 t23 x23), (101, bx 32 t31 x24), (102, bx 32 t31 x25)]⟩
def f14_c1 (x19 : Int) (x20 : Bool) (x22 : Bool) (x26 : Int × Int × Int × Int × Int) : Option (Int × Bool) :=
 (bif x22 then
 some (x26.2.2.2.2, true)
 else
 some (x19, x20))
theorem f14_c1_ok (x18 : Int) (x19 : Int) (x20 : Bool) (x21 : Int) (x22 : Bool) (x23 : Int × Int × Int × Int × Int × Int × (List (Int × Int × Int × Int × Int)) × Int) (x24 : Int × Int) (x25 : Int × Int) (x26 : Int × Int × Int × Int × Int) {out : (Int × Bool)} (h : f14_c1 x19 x20 x22 x26 = some out) : Run Pg 53 (sq2 (sq2 (bk1 (sq1 (sq2 (lp1 (bk1 (sq2 (sq1 (sq2 (sq2 c_14))))))))))) ⟨[(3, .d t2 x18), (4, .ptr 100 0), (5, .ptr 101 0), (6, .ptr 102 0), (10, .d t2 x19), (11, .d t4 x20), (12, .d t2 x21), (13, .ptr 605 0), (48, .d t4 x22)], [(100, bx 24 t23 x23), (101, bx 32 t31 x24), (102, bx 32 t31 x25), (605, bx 57 t56 x26)]⟩ (f14_c1_post x18 x19 x20 x21 x22 x23 x24 x25 x26 out) := by
 unfold f14_c1 at h
 refine Run.cd x22 (fun hb => ?_) (fun hb => ?_)
 ·replace h := bif_t h hb
  refine qE [] 800 ⟨[(3, .d t2 x18), (4, .ptr 100 0), (5, .ptr 101 0), (6, .ptr 102 0), (10, .d t2 x26.2.2.2.2), (11, .d t4 true), (12, .d t2 x21)], [(100, bx 24 t23 x23), (101, bx 32 t31 x24), (102, bx 32 t31 x25)]⟩ aN ?_
  obtain rfl := sI h
  exact ⟨rfl, by kernel_rfl⟩
 ·replace h := bif_f h hb
  refine qK ⟨[(3, .d t2 x18), (4, .ptr 100 0), (5, .ptr 101 0), (6, .ptr 102 0), (10, .d t2 x19), (11, .d t4 x20), (12, .d t2 x21)], [(100, bx 24 t23 x23), (101, bx 32 t31 x24), (102, bx 32 t31 x25)]⟩ ?_
  refine Run.sk ?_
  obtain rfl := sI h
  exact ⟨rfl, by kernel_rfl⟩
def f14_l0_post (x1 : Int) (x5 : Int × Int × Int × Int × Int × Int × (List (Int × Int × Int × Int × Int)) × Int) (x6 : Int × Int) (x7 : Int × Int) : (Int × Bool) → Ex → St → Prop
 | o, x, s => x = .out 0 ∧ s = ⟨[(10, .d t2 o.1), (11, .d t4 o.2)], []⟩
def f14_l0_b (x1 : Int) (x5 : Int × Int × Int × Int × Int × Int × (List (Int × Int × Int × Int × Int)) × Int) (x6 : Int × Int) (x7 : Int × Int) (again : Int × Bool × Int → Option (Int × Bool)) : Int × Bool × Int → Option (Int × Bool)
 | (x2, x3, x4) =>
 (bif (decide (x4 < (ofN (List.length x5.2.2.2.2.2.2.1)))) then
 gd (0 ≤ x4) <|
 gd (x4 < ((List.length x5.2.2.2.2.2.2.1 : Nat) : Int)) <|
 (bif (decide ((0 : Int) < x1)) then
 (F33 (List.getD x5.2.2.2.2.2.2.1 (toN x4) ((0 : Int), (0 : Int), (0 : Int), (0 : Int), (0 : Int))) x6 x7).bind fun y18 =>
 (F35 x1).bind fun y19 =>
 (F34 y19).bind fun y20 =>
 (F32 y18 y20).bind fun y21 =>
 (bif (decide (y21 < (0 : Int))) then
 (bif (!x3) then
 again ((List.getD x5.2.2.2.2.2.2.1 (toN x4) ((0 : Int), (0 : Int), (0 : Int), (0 : Int), (0 : Int))).2.2.2.2, true, (wrapI .i64 (x4 + (1 : Int))))
 else
 ((f14_c1 x2 x3 (decide (x2 < (List.getD x5.2.2.2.2.2.2.1 (toN x4) ((0 : Int), (0 : Int), (0 : Int), (0 : Int), (0 : Int))).2.2.2.2)) (List.getD x5.2.2.2.2.2.2.1 (toN x4) ((0 : Int), (0 : Int), (0 : Int), (0 : Int), (0 : Int)))).bind fun o27 =>
 again (o27.1, o27.2, (wrapI .i64 (x4 + (1 : Int))))))
 else
 again (x2, x3, (wrapI .i64 (x4 + (1 : Int)))))
 else
 again (x2, x3, (wrapI .i64 (x4 + (1 : Int)))))
 else
 some (x2, x3))
def f14_l0 (x1 : Int) (x5 : Int × Int × Int × Int × Int × Int × (List (Int × Int × Int × Int × Int)) × Int) (x6 : Int × Int) (x7 : Int × Int) : Nat → Int × Bool × Int → Option (Int × Bool) := loopF (f14_l0_b x1 x5 x6 x7)
theorem f14_l0_ok (x1 : Int) (x5 : Int × Int × Int × Int × Int × Int × (List (Int × Int × Int × Int × Int)) × Int) (x6 : Int × Int) (x7 : Int × Int) (k : Nat) (x2 : Int) (x3 : Bool) (x4 : Int) {out : (Int × Bool)} (h : f14_l0 x1 x5 x6 x7 k (x2, x3, x4) = some out) : Run Pg 53 (bk1 (sq2 (sq1 (sq2 (sq2 c_14))))) ⟨[(3, .d t2 x1), (4, .ptr 100 0), (5, .ptr 101 0), (6, .ptr 102 0), (10, .d t2 x2), (11, .d t4 x3), (12, .d t2 x4)], [(100, bx 24 t23 x5), (101, bx 32 t31 x6), (102, bx 32 t31 x7)]⟩ (f14_l0_post x1 x5 x6 x7 out) := by
 refine Run.loopN (by kernel_rfl) (fun m s => ∃ x2 x3 x4, s = ⟨[(3, .d t2 x1), (4, .ptr 100 0), (5, .ptr 101 0), (6, .ptr 102 0), (10, .d t2 x2), (11, .d t4 x3), (12, .d t2 x4)], [(100, bx 24 t23 x5), (101, bx 32 t31 x6), (102, bx 32 t31 x7)]⟩ ∧ f14_l0 x1 x5 x6 x7 m (x2, x3, x4) = some out) ?_ k ⟨x2, x3, x4,  rfl, h⟩
 rintro m s ⟨x2, x3, x4,  rfl, h⟩
 cases m with
 | zero => cases h
 | succ m =>
 replace h : f14_l0_b x1 x5 x6 x7 (f14_l0 x1 x5 x6 x7 m) (x2, x3, x4) = some out := h
 unfold f14_l0_b at h
 refine Run.sq ?_
 refine qN [] 400 ⟨[(3, .d t2 x1), (4, .ptr 100 0), (5, .ptr 101 0), (6, .ptr 102 0), (10, .d t2 x2), (11, .d t4 x3), (12, .d t2 x4), (18, .d t4 (decide (x4 < (ofN (List.length x5.2.2.2.2.2.2.1)))))], [(100, bx 24 t23 x5), (101, bx 32 t31 x6), (102, bx 32 t31 x7)]⟩ aN ?_
 refine Run.cd (decide (x4 < (ofN (List.length x5.2.2.2.2.2.2.1)))) (fun hb => ?_) (fun hb => ?_)
 ·replace h := bif_t h hb
  refine Run.sk ?_
  show Run Pg 53 _ _ _
  refine Run.sq ?_
  refine Run.bl 1 ?_
  obtain ⟨g_0, h⟩ := gd_elim h
  obtain ⟨g_1, h⟩ := gd_elim h
  refine qN [] 600 ⟨[(3, .d t2 x1), (4, .ptr 100 0), (5, .ptr 101 0), (6, .ptr 102 0), (10, .d t2 x2), (11, .d t4 x3), (12, .d t2 x4), (13, .ptr 605 0)], [(100, bx 24 t23 x5), (101, bx 32 t31 x6), (102, bx 32 t31 x7), (605, bx 57 t56 (List.getD x5.2.2.2.2.2.2.1 (toN x4) ((0 : Int), (0 : Int), (0 : Int), (0 : Int), (0 : Int))))]⟩ (aC g_0 (aC g_1 aN)) ?_
  rcases bif_elim h with ⟨hb0, h⟩ | ⟨hb0, h⟩
  ·obtain ⟨y18, h_y18, h⟩ := bnd_elim h
   obtain ⟨y19, h_y19, h⟩ := bnd_elim h
   obtain ⟨y20, h_y20, h⟩ := bnd_elim h
   obtain ⟨y21, h_y21, h⟩ := bnd_elim h
   rcases bif_elim h with ⟨hb5, h⟩ | ⟨hb5, h⟩
   ·rcases bif_elim h with ⟨hb6, h⟩ | ⟨hb6, h⟩
    ·refine qN [(2, .b true), (6, .call (.d t69 y18)), (8, .call (.d t69 y19)), (9, .call (.d t69 y20)), (10, .call (.d t2 y21)), (13, .b true), (16, .b true)] 700 ⟨[(3, .d t2 x1), (4, .ptr 100 0), (5, .ptr 101 0), (6, .ptr 102 0), (10, .d t2 x2), (11, .d t4 x3), (12, .d t2 x4), (13, .ptr 605 0), (48, .d t4 true)], [(100, bx 24 t23 x5), (101, bx 32 t31 x6), (102, bx 32 t31 x7), (605, bx 57 t56 (List.getD x5.2.2.2.2.2.2.1 (toN x4) ((0 : Int), (0 : Int), (0 : Int), (0 : Int), (0 : Int))))]⟩ (aC hb0 (aC (c33 h_y18) (aC (c35 h_y19) (aC (c34 h_y20) (aC (c32 h_y21) (aC hb5 (aC hb6 aN))))))) ?_
     refine Run.cd true (fun hb => ?_) (fun hb => (by cases hb))
     refine qE [] 800 ⟨[(3, .d t2 x1), (4, .ptr 100 0), (5, .ptr 101 0), (6, .ptr 102 0), (10, .d t2 (List.getD x5.2.2.2.2.2.2.1 (toN x4) ((0 : Int), (0 : Int), (0 : Int), (0 : Int), (0 : Int))).2.2.2.2), (11, .d t4 true), (12, .d t2 x4)], [(100, bx 24 t23 x5), (101, bx 32 t31 x6), (102, bx 32 t31 x7)]⟩ aN ?_
     show Run Pg 53 _ _ _
     refine qE [] 500 ⟨[(3, .d t2 x1), (4, .ptr 100 0), (5, .ptr 101 0), (6, .ptr 102 0), (10, .d t2 (List.getD x5.2.2.2.2.2.2.1 (toN x4) ((0 : Int), (0 : Int), (0 : Int), (0 : Int), (0 : Int))).2.2.2.2), (11, .d t4 true), (12, .d t2 (wrapI .i64 (x4 + (1 : Int))))], [(100, bx 24 t23 x5), (101, bx 32 t31 x6), (102, bx 32 t31 x7)]⟩ aN ?_
     exact ⟨m, Nat.lt_succ_self m, _, _, _, rfl, h⟩
    ·refine qN [(2, .b true), (6, .call (.d t69 y18)), (8, .call (.d t69 y19)), (9, .call (.d t69 y20)), (10, .call (.d t2 y21)), (13, .b true), (16, .b false)] 700 ⟨[(3, .d t2 x1), (4, .ptr 100 0), (5, .ptr 101 0), (6, .ptr 102 0), (10, .d t2 x2), (11, .d t4 x3), (12, .d t2 x4), (13, .ptr 605 0), (48, .d t4 (decide (x2 < (List.getD x5.2.2.2.2.2.2.1 (toN x4) ((0 : Int), (0 : Int), (0 : Int), (0 : Int), (0 : Int))).2.2.2.2)))], [(100, bx 24 t23 x5), (101, bx 32 t31 x6), (102, bx 32 t31 x7), (605, bx 57 t56 (List.getD x5.2.2.2.2.2.2.1 (toN x4) ((0 : Int), (0 : Int), (0 : Int), (0 : Int), (0 : Int))))]⟩ (aC hb0 (aC (c33 h_y18) (aC (c35 h_y19) (aC (c34 h_y20) (aC (c32 h_y21) (aC hb5 (aC hb6 aN))))))) ?_
     obtain ⟨o27, h_o27, h⟩ := bnd_elim h
     refine Run.mono (f14_c1_ok x1 x2 x3 x4 (decide (x2 < (List.getD x5.2.2.2.2.2.2.1 (toN x4) ((0 : Int), (0 : Int), (0 : Int), (0 : Int), (0 : Int))).2.2.2.2)) x5 x6 x7 (List.getD x5.2.2.2.2.2.2.1 (toN x4) ((0 : Int), (0 : Int), (0 : Int), (0 : Int), (0 : Int))) h_o27) ?_
     rintro _ _ ⟨rfl, rfl⟩
     show Run Pg 53 _ _ _
     refine qE [] 500 ⟨[(3, .d t2 x1), (4, .ptr 100 0), (5, .ptr 101 0), (6, .ptr 102 0), (10, .d t2 o27.1), (11, .d t4 o27.2), (12, .d t2 (wrapI .i64 (x4 + (1 : Int))))], [(100, bx 24 t23 x5), (101, bx 32 t31 x6), (102, bx 32 t31 x7)]⟩ aN ?_
     exact ⟨m, Nat.lt_succ_self m, _, _, _, rfl, h⟩
   ·refine qN [(2, .b true), (6, .call (.d t69 y18)), (8, .call (.d t69 y19)), (9, .call (.d t69 y20)), (10, .call (.d t2 y21)), (13, .b false)] 700 ⟨[(3, .d t2 x1), (4, .ptr 100 0), (5, .ptr 101 0), (6, .ptr 102 0), (10, .d t2 x2), (11, .d t4 x3), (12, .d t2 x4), (13, .ptr 605 0), (48, .d t4 false)], [(100, bx 24 t23 x5), (101, bx 32 t31 x6), (102, bx 32 t31 x7), (605, bx 57 t56 (List.getD x5.2.2.2.2.2.2.1 (toN x4) ((0 : Int), (0 : Int), (0 : Int), (0 : Int), (0 : Int))))]⟩ (aC hb0 (aC (c33 h_y18) (aC (c35 h_y19) (aC (c34 h_y20) (aC (c32 h_y21) (aC hb5 aN)))))) ?_
    refine Run.cd false (fun hb => (by cases hb)) (fun hb => ?_)
    refine Run.sk ?_
    show Run Pg 53 _ _ _
    refine qE [] 500 ⟨[(3, .d t2 x1), (4, .ptr 100 0), (5, .ptr 101 0), (6, .ptr 102 0), (10, .d t2 x2), (11, .d t4 x3), (12, .d t2 (wrapI .i64 (x4 + (1 : Int))))], [(100, bx 24 t23 x5), (101, bx 32 t31 x6), (102, bx 32 t31 x7)]⟩ aN ?_
    exact ⟨m, Nat.lt_succ_self m, _, _, _, rfl, h⟩
  ·refine qN [(2, .b false)] 700 ⟨[(3, .d t2 x1), (4, .ptr 100 0), (5, .ptr 101 0), (6, .ptr 102 0), (10, .d t2 x2), (11, .d t4 x3), (12, .d t2 x4), (13, .ptr 605 0), (48, .d t4 false)], [(100, bx 24 t23 x5), (101, bx 32 t31 x6), (102, bx 32 t31 x7), (605, bx 57 t56 (List.getD x5.2.2.2.2.2.2.1 (toN x4) ((0 : Int), (0 : Int), (0 : Int), (0 : Int), (0 : Int))))]⟩ (aC hb0 aN) ?_
   refine Run.cd false (fun hb => (by cases hb)) (fun hb => ?_)
   refine Run.sk ?_
   show Run Pg 53 _ _ _
   refine qE [] 500 ⟨[(3, .d t2 x1), (4, .ptr 100 0), (5, .ptr 101 0), (6, .ptr 102 0), (10, .d t2 x2), (11, .d t4 x3), (12, .d t2 (wrapI .i64 (x4 + (1 : Int))))], [(100, bx 24 t23 x5), (101, bx 32 t31 x6), (102, bx 32 t31 x7)]⟩ aN ?_
   exact ⟨m, Nat.lt_succ_self m, _, _, _, rfl, h⟩
 ·replace h := bif_f h hb
  refine qK ⟨[(10, .d t2 x2), (11, .d t4 x3)], []⟩ ?_
  refine Run.ex 0 ?_
  obtain rfl := sI h
  exact ⟨rfl, by kernel_rfl⟩
def F14 (a0 : Int × Int × Int × Int × Int × Int × (List (Int × Int × Int × Int × Int)) × Int) (a1 : Int × Int) (a2 : Int × Int) (a3 : Int) : Option (Int × Bool) :=
 ((f14_l0 a3 a0 a1 a2 (2 + List.length a0.2.2.2.2.2.2.1) ((0 : Int), false, (0 : Int))).bind fun o28 =>
 some (o28.1, o28.2))
theorem c14 {a0 : Int × Int × Int × Int × Int × Int × (List (Int × Int × Int × Int × Int)) × Int} {a1 : Int × Int} {a2 : Int × Int} {a3 : Int} {r : Int × Bool} (h : F14 a0 a1 a2 a3 = some r) : CallPure Pg 14 [(.d t23 a0), (.d t31 a1), (.d t31 a2), (.d t2 a3)] (.tup (.vcons (.d t2 r.1) (.vcons (.d t4 r.2) .vnil))) := by
 refine qC c_14 53 [.tmp 8, .tmp 9] [2, 4] Go.Proofs.Tryz.func14 ?_
 show Run Pg 53 c_14 ⟨[(0, .d t23 a0), (1, .d t31 a1), (2, .d t31 a2), (3, .d t2 a3)], []⟩ (fin14 r)
 unfold F14 at h
 refine qN [] 100 ⟨[(3, .d t2 a3), (4, .ptr 100 0), (5, .ptr 101 0), (6, .ptr 102 0)], [(100, bx 24 t23 a0), (101, bx 32 t31 a1), (102, bx 32 t31 a2)]⟩ aN ?_
 refine qN [] 200 ⟨[(3, .d t2 a3), (4, .ptr 100 0), (5, .ptr 101 0), (6, .ptr 102 0), (10, .d t2 (0 : Int)), (11, .d t4 false)], [(100, bx 24 t23 a0), (101, bx 32 t31 a1), (102, bx 32 t31 a2)]⟩ aN ?_
 refine Run.sq ?_
 refine qN [] 300 ⟨[(3, .d t2 a3), (4, .ptr 100 0), (5, .ptr 101 0), (6, .ptr 102 0), (10, .d t2 (0 : Int)), (11, .d t4 false), (12, .d t2 (0 : Int))], [(100, bx 24 t23 a0), (101, bx 32 t31 a1), (102, bx 32 t31 a2)]⟩ aN ?_
 refine Run.bl 0 ?_
 obtain ⟨o28, h_o28, h⟩ := bnd_elim h
 refine Run.mono (f14_l0_ok a3 a0 a1 a2 _ (0 : Int) false (0 : Int) h_o28) ?_
 rintro _ _ ⟨rfl, rfl⟩
 show Run Pg 53 _ _ _
 refine qN [] 900 ⟨[(8, .d t2 o28.1), (9, .d t4 o28.2)], []⟩ aN ?_
 refine Run.rt ?_
 obtain rfl := sI h
 exact qR [(.d t2 o28.1), (.d t4 o28.2)]

/-! ## f30 -/
noncomputable def c_30 : Code := body0 Go.Proofs.Tryz.f30
def fin30 (r : Bool) : Ex → St → Prop := endK X0 [.tmp 2] [4] (.d t4 r)
def F30 (a0 : Int × Int) : Option (Bool) :=
 (bif (decide ((wrapI .i64 (0 - (40000000 : Int))) ≤ a0.1)) then
 (bif (decide (a0.1 ≤ (40000000 : Int))) then
 (bif (decide ((wrapI .i64 (0 - (40000000 : Int))) ≤ a0.2)) then
 some (decide (a0.2 ≤ (40000000 : Int)))
 else
 some false)
 else
 some false)
 else
 some false)
theorem c30 {a0 : Int × Int} {r : Bool} (h : F30 a0 = some r) : CallPure Pg 30 [(.d t31 a0)] (.d t4 r) := by
 refine qC c_30 28 [.tmp 2] [4] Go.Proofs.Tryz.func30 ?_
 show Run Pg 28 c_30 ⟨[(0, .d t31 a0)], []⟩ (fin30 r)
 unfold F30 at h
 refine qN [] 100 ⟨[(1, .ptr 100 0)], [(100, bx 32 t31 a0)]⟩ aN ?_
 refine qN [] 200 ⟨[(1, .ptr 100 0), (3, .d t2 (40000000 : Int))], [(100, bx 32 t31 a0)]⟩ aN ?_
 rcases bif_elim h with ⟨hb0, h⟩ | ⟨hb0, h⟩
 ·rcases bif_elim h with ⟨hb1, h⟩ | ⟨hb1, h⟩
  ·rcases bif_elim h with ⟨hb2, h⟩ | ⟨hb2, h⟩
   ·refine qN [(5, .b true), (11, .b true), (18, .b true)] 300 ⟨[(2, .d t4 (decide (a0.2 ≤ (40000000 : Int))))], []⟩ (aC hb0 (aC hb1 (aC hb2 aN))) ?_
    refine Run.rt ?_
    obtain rfl := sI h
    exact qR [(.d t4 (decide (a0.2 ≤ (40000000 : Int))))]
   ·refine qN [(5, .b true), (11, .b true), (18, .b false)] 300 ⟨[(2, .d t4 false)], []⟩ (aC hb0 (aC hb1 (aC hb2 aN))) ?_
    refine Run.rt ?_
    obtain rfl := sI h
    exact qR [(.d t4 false)]
  ·refine qN [(5, .b true), (11, .b false)] 300 ⟨[(2, .d t4 false)], []⟩ (aC hb0 (aC hb1 aN)) ?_
   refine Run.rt ?_
   obtain rfl := sI h
   exact qR [(.d t4 false)]
 ·refine qN [(5, .b false)] 300 ⟨[(2, .d t4 false)], []⟩ (aC hb0 aN) ?_
  refine Run.rt ?_
  obtain rfl := sI h
  exact qR [(.d t4 false)]

/-! ## f12 -/
noncomputable def c_12 : Code := body0 Go.Proofs.Tryz.f12
def fin12 (r : Bool) : Ex → St → Prop := endK X0 [.tmp 6] [4] (.d t4 r)
def F12 (a0 : Int × Int × Int × Int × Int × Int × (List (Int × Int × Int × Int × Int)) × Int) (a1 : (Int × Int) × (Int × Int)) (a2 : Int) : Option (Bool) :=
 (F15 a0).bind fun y1 =>
 (bif y1 then
 (F30 a1.1).bind fun y2 =>
 (bif y2 then
 (F30 a1.2).bind fun y3 =>
 (bif y3 then
 some (decide (a2 ≤ (40000000 : Int)))
 else
 some false)
 else
 some false)
 else
 some false)
theorem c12 {a0 : Int × Int × Int × Int × Int × Int × (List (Int × Int × Int × Int × Int)) × Int} {a1 : (Int × Int) × (Int × Int)} {a2 : Int} {r : Bool} (h : F12 a0 a1 a2 = some r) : CallPure Pg 12 [(.d t23 a0), (.d t33 a1), (.d t2 a2)] (.d t4 r) := by
 refine qC c_12 23 [.tmp 6] [4] Go.Proofs.Tryz.func12 ?_
 show Run Pg 23 c_12 ⟨[(0, .d t23 a0), (1, .d t33 a1), (2, .d t2 a2)], []⟩ (fin12 r)
 unfold F12 at h
 refine qN [] 100 ⟨[(2, .d t2 a2), (3, .ptr 100 0), (4, .ptr 101 0)], [(100, bx 24 t23 a0), (101, bx 33 t33 a1)]⟩ aN ?_
 obtain ⟨y1, h_y1, h⟩ := bnd_elim h
 rcases bif_elim h with ⟨hb1, h⟩ | ⟨hb1, h⟩
 ·obtain ⟨y2, h_y2, h⟩ := bnd_elim h
  rcases bif_elim h with ⟨hb4, h⟩ | ⟨hb4, h⟩
  ·obtain ⟨y3, h_y3, h⟩ := bnd_elim h
   rcases bif_elim h with ⟨hb7, h⟩ | ⟨hb7, h⟩
   ·refine qN [(1, .call (.d t4 y1)), (2, .b true), (5, .call (.d t4 y2)), (7, .b true), (10, .call (.d t4 y3)), (12, .b true)] 200 ⟨[(6, .d t4 (decide (a2 ≤ (40000000 : Int))))], []⟩ (aC (c15 h_y1) (aC hb1 (aC (show (0 ≤ (0 : Int)) from (by decide)) (aC (c30 h_y2) (aC hb4 (aC (show (0 ≤ (1 : Int)) from (by decide)) (aC (c30 h_y3) (aC hb7 aN)))))))) ?_
    refine Run.rt ?_
    obtain rfl := sI h
    exact qR [(.d t4 (decide (a2 ≤ (40000000 : Int))))]
   ·refine qN [(1, .call (.d t4 y1)), (2, .b true), (5, .call (.d t4 y2)), (7, .b true), (10, .call (.d t4 y3)), (12, .b false)] 200 ⟨[(6, .d t4 false)], []⟩ (aC (c15 h_y1) (aC hb1 (aC (show (0 ≤ (0 : Int)) from (by decide)) (aC (c30 h_y2) (aC hb4 (aC (show (0 ≤ (1 : Int)) from (by decide)) (aC (c30 h_y3) (aC hb7 aN)))))))) ?_
    refine Run.rt ?_
    obtain rfl := sI h
    exact qR [(.d t4 false)]
  ·refine qN [(1, .call (.d t4 y1)), (2, .b true), (5, .call (.d t4 y2)), (7, .b false)] 200 ⟨[(6, .d t4 false)], []⟩ (aC (c15 h_y1) (aC hb1 (aC (show (0 ≤ (0 : Int)) from (by decide)) (aC (c30 h_y2) (aC hb4 aN))))) ?_
   refine Run.rt ?_
   obtain rfl := sI h
   exact qR [(.d t4 false)]
 ·refine qN [(1, .call (.d t4 y1)), (2, .b false)] 200 ⟨[(6, .d t4 false)], []⟩ (aC (c15 h_y1) (aC hb1 aN)) ?_
  refine Run.rt ?_
  obtain rfl := sI h
  exact qR [(.d t4 false)]

end Go.Sw
