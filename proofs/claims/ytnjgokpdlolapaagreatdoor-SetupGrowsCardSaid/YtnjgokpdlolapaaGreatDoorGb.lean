/- Each function of the code computes the Lean function of the same number wherever that has a value; no other conditions. -/
import Derived.Test.YtnjgokpdlolapaaGreatDoorGa
namespace Go.Sw
open Go Go.Sw
set_option linter.unusedSimpArgs false
set_option linter.unusedVariables false

/-! ## f135 -/

noncomputable def c_135 : Code := body0 Go.Proofs.Tryz.f135

def fin135 (r : RatL × Int) : Ex → St → Prop := endK X0 [.cell 4 70, .tmp 5] [70, 26] (.tup (.vcons (.d t69 r.1) (.vcons (.d t2 r.2) .vnil)))

def F135 (a0 : IntL) (a1 : IntL) : Option (RatL × Int) :=
 (F108 a1).bind fun y1 =>
 (bif (y1 == (0 : Int)) then
 some (((false, ([] : List Int)), (false, ([] : List Int))), (6 : Int))
 else
 (F67 a0 a1).bind fun y2 =>
 some (y2, (0 : Int)))

theorem c135 {a0 : IntL} {a1 : IntL} {r : RatL × Int} (h : F135 a0 a1 = some r) : CallPure Pg 135 [(.d t67 a0), (.d t67 a1)] (.tup (.vcons (.d t69 r.1) (.vcons (.d t2 r.2) .vnil))) := by
  refine qC c_135 13 [.cell 4 70, .tmp 5] [70, 26] Go.Proofs.Tryz.func135 ?_
  show Run Pg 13 c_135 ⟨[(0, .d t67 a0), (1, .d t67 a1)], []⟩ (fin135 r)
  unfold F135 at h
  refine qN [] 100 ⟨[(2, .ptr 100 0), (3, .ptr 101 0), (4, .ptr 102 0)], [(100, bx 68 t67 a0), (101, bx 68 t67 a1), (102, bx 70 t69 ((false, ([] : List Int)), (false, ([] : List Int))))]⟩ aN ?_
  refine Run.sq ?_
  obtain ⟨y1, h_y1, h⟩ := bnd_elim h
  refine qN [(1, .call (.d t2 y1))] 200 ⟨[(2, .ptr 100 0), (3, .ptr 101 0), (4, .ptr 102 0), (8, .d t4 (y1 == (0 : Int)))], [(100, bx 68 t67 a0), (101, bx 68 t67 a1), (102, bx 70 t69 ((false, ([] : List Int)), (false, ([] : List Int))))]⟩ (aC (c108 h_y1) aN) ?_
  refine Run.cd (y1 == (0 : Int)) (fun hb => ?_) (fun hb => ?_)
  · replace h := bif_t h hb
    refine qN [] 300 ⟨[(4, .ptr 102 0), (5, .d t2 (6 : Int))], [(102, bx 70 t69 ((false, ([] : List Int)), (false, ([] : List Int))))]⟩ aN ?_
    refine Run.rt ?_
    obtain rfl := sI h
    exact qR [(.d t69 ((false, ([] : List Int)), (false, ([] : List Int)))), (.d t2 (6 : Int))]
  · replace h := bif_f h hb
    refine Run.sk ?_
    show Run Pg 13 _ _ _
    obtain ⟨y2, h_y2, h⟩ := bnd_elim h
    refine qN [(2, .call (.d t69 y2))] 400 ⟨[(4, .ptr 102 0), (5, .d t2 (0 : Int))], [(102, bx 70 t69 y2)]⟩ (aC (c67 h_y2) aN) ?_
    refine Run.rt ?_
    obtain rfl := sI h
    exact qR [(.d t69 y2), (.d t2 (0 : Int))]

/-! ## f136 -/

noncomputable def c_136 : Code := body0 Go.Proofs.Tryz.f136

def fin136 (r : IntL) : Ex → St → Prop := endK X0 [.cell 2 68] [68] (.d t67 r)

def f136_l0_post (x3 : Int) (x5 : IntL) (x7 : IntL) : (IntL) → Ex → St → Prop
 | o, x, s => x = .out 0 ∧ s = ⟨[(2, .ptr 100 0), (3, .ptr 201 0)], [(100, bx 68 t67 x5), (201, bx 68 t67 o)]⟩

def f136_l0_b (x3 : Int) (x7 : IntL) (again : Int × IntL → Option (IntL)) : Int × IntL → Option (IntL)
 | (x4, x6) =>
 (bif (decide (x4 < x3)) then
 (F68 x6 x7).bind fun y9 =>
 again ((wrapI .i64 (x4 + (1 : Int))), y9)
 else
 some x6)

def f136_l0 (x3 : Int) (x7 : IntL) : Nat → Int × IntL → Option (IntL) := loopF (f136_l0_b x3 x7)

theorem f136_l0_ok (x3 : Int) (x5 : IntL) (x7 : IntL) (k : Nat) (x4 : Int) (x6 : IntL) {out : (IntL)} (h : f136_l0 x3 x7 k (x4, x6) = some out) : Run Pg 15 (bk1 (sq2 (sq1 (sq2 (sq2 (sq2 c_136)))))) ⟨[(2, .ptr 100 0), (3, .ptr 201 0), (4, .ptr 301 0), (7, .d t2 x3), (8, .d t2 x4)], [(100, bx 68 t67 x5), (201, bx 68 t67 x6), (301, bx 68 t67 x7)]⟩ (f136_l0_post x3 x5 x7 out) := by
  refine Run.loopN (by kernel_rfl) (fun m s => ∃ x4 x6, s = ⟨[(2, .ptr 100 0), (3, .ptr 201 0), (4, .ptr 301 0), (7, .d t2 x3), (8, .d t2 x4)], [(100, bx 68 t67 x5), (201, bx 68 t67 x6), (301, bx 68 t67 x7)]⟩ ∧ f136_l0 x3 x7 m (x4, x6) = some out) ?_ k ⟨x4, x6,  rfl, h⟩
  rintro m s ⟨x4, x6,  rfl, h⟩
  cases m with
  | zero => cases h
  | succ m =>
  replace h : f136_l0_b x3 x7 (f136_l0 x3 x7 m) (x4, x6) = some out := h
  unfold f136_l0_b at h
  refine qN [] 500 ⟨[(2, .ptr 100 0), (3, .ptr 201 0), (4, .ptr 301 0), (7, .d t2 x3), (8, .d t2 x4), (9, .d t4 (decide (x4 < x3)))], [(100, bx 68 t67 x5), (201, bx 68 t67 x6), (301, bx 68 t67 x7)]⟩ aN ?_
  refine Run.sq ?_
  refine Run.cd (decide (x4 < x3)) (fun hb => ?_) (fun hb => ?_)
  · replace h := bif_t h hb
    refine Run.sk ?_
    show Run Pg 15 _ _ _
    refine Run.sq ?_
    refine Run.bl 1 ?_
    obtain ⟨y9, h_y9, h⟩ := bnd_elim h
    refine qE [(2, .call (.d t67 y9))] 600 ⟨[(2, .ptr 100 0), (3, .ptr 201 0), (4, .ptr 301 0), (7, .d t2 x3), (8, .d t2 x4)], [(100, bx 68 t67 x5), (201, bx 68 t67 y9), (301, bx 68 t67 x7)]⟩ (aC (c68 h_y9) aN) ?_
    show Run Pg 15 _ _ _
    refine qE [] 700 ⟨[(2, .ptr 100 0), (3, .ptr 201 0), (4, .ptr 301 0), (7, .d t2 x3), (8, .d t2 (wrapI .i64 (x4 + (1 : Int))))], [(100, bx 68 t67 x5), (201, bx 68 t67 y9), (301, bx 68 t67 x7)]⟩ aN ?_
    exact ⟨m, Nat.lt_succ_self m, _, _, rfl, h⟩
  · replace h := bif_f h hb
    refine qK ⟨[(2, .ptr 100 0), (3, .ptr 201 0)], [(100, bx 68 t67 x5), (201, bx 68 t67 x6)]⟩ ?_
    refine Run.ex 0 ?_
    obtain rfl := sI h
    exact ⟨rfl, by kernel_rfl⟩

def F136 (a0 : Int) : Option (IntL) :=
 (F66 (1 : Int)).bind fun y1 =>
 (F66 (10 : Int)).bind fun y2 =>
 ((f136_l0 a0 y2 (2 + Int.toNat a0) ((0 : Int), y1)).bind fun o10 =>
 some o10)

theorem c136 {a0 : Int} {r : IntL} (h : F136 a0 = some r) : CallPure Pg 136 [(.d t2 a0)] (.d t67 r) := by
  refine qC c_136 15 [.cell 2 68] [68] Go.Proofs.Tryz.func136 ?_
  show Run Pg 15 c_136 ⟨[(0, .d t2 a0)], []⟩ (fin136 r)
  unfold F136 at h
  refine qN [] 100 ⟨[(0, .d t2 a0), (2, .ptr 100 0)], [(100, bx 68 t67 (false, ([] : List Int)))]⟩ aN ?_
  obtain ⟨y1, h_y1, h⟩ := bnd_elim h
  refine qN [(0, .call (.d t67 y1))] 200 ⟨[(0, .d t2 a0), (2, .ptr 100 0), (3, .ptr 201 0)], [(100, bx 68 t67 (false, ([] : List Int))), (201, bx 68 t67 y1)]⟩ (aC (c66 h_y1) aN) ?_
  obtain ⟨y2, h_y2, h⟩ := bnd_elim h
  refine qN [(0, .call (.d t67 y2))] 300 ⟨[(0, .d t2 a0), (2, .ptr 100 0), (3, .ptr 201 0), (4, .ptr 301 0)], [(100, bx 68 t67 (false, ([] : List Int))), (201, bx 68 t67 y1), (301, bx 68 t67 y2)]⟩ (aC (c66 h_y2) aN) ?_
  refine Run.sq ?_
  refine qN [] 400 ⟨[(2, .ptr 100 0), (3, .ptr 201 0), (4, .ptr 301 0), (7, .d t2 a0), (8, .d t2 (0 : Int))], [(100, bx 68 t67 (false, ([] : List Int))), (201, bx 68 t67 y1), (301, bx 68 t67 y2)]⟩ aN ?_
  refine Run.bl 0 ?_
  obtain ⟨o10, h_o10, h⟩ := bnd_elim h
  refine Run.mono (f136_l0_ok a0 (false, ([] : List Int)) y2 _ (0 : Int) y1 h_o10) ?_
  rintro _ _ ⟨rfl, rfl⟩
  show Run Pg 15 _ _ _
  refine qN [] 800 ⟨[(2, .ptr 100 0)], [(100, bx 68 t67 o10)]⟩ aN ?_
  refine Run.rt ?_
  obtain rfl := sI h
  exact qR [(.d t67 o10)]

/-! ## f29 -/

noncomputable def c_29 : Code := body0 Go.Proofs.Tryz.f29

def fin29 (r : Bool) : Ex → St → Prop := endK X0 [.tmp 4] [4] (.d t4 r)

def F29 (a0 : Int) (a1 : Int) : Option (Bool) :=
 (bif (decide (a1 ≤ a0)) then
 some (decide (a0 ≤ (10000000 : Int)))
 else
 some false)

theorem c29 {a0 : Int} {a1 : Int} {r : Bool} (h : F29 a0 a1 = some r) : CallPure Pg 29 [(.d t2 a0), (.d t2 a1)] (.d t4 r) := by
  refine qC c_29 12 [.tmp 4] [4] Go.Proofs.Tryz.func29 ?_
  show Run Pg 12 c_29 ⟨[(0, .d t2 a0), (1, .d t2 a1)], []⟩ (fin29 r)
  unfold F29 at h
  refine qN [] 100 ⟨[(0, .d t2 a0), (1, .d t2 a1)], []⟩ aN ?_
  rcases bif_elim h with ⟨hb0, h⟩ | ⟨hb0, h⟩
  · refine qN [(3, .b true)] 200 ⟨[(4, .d t4 (decide (a0 ≤ (10000000 : Int))))], []⟩ (aC hb0 aN) ?_
    refine Run.rt ?_
    obtain rfl := sI h
    exact qR [(.d t4 (decide (a0 ≤ (10000000 : Int))))]
  · refine qN [(3, .b false)] 200 ⟨[(4, .d t4 false)], []⟩ (aC hb0 aN) ?_
    refine Run.rt ?_
    obtain rfl := sI h
    exact qR [(.d t4 false)]

/-! ## f28 -/

noncomputable def c_28 : Code := body0 Go.Proofs.Tryz.f28

def fin28 (r : Bool) : Ex → St → Prop := endK X0 [.tmp 8] [4] (.d t4 r)

def F28 (a0 : Int) (a1 : Int) (a2 : Int) (a3 : Int) : Option (Bool) :=
 (F29 a0 (-10000000 : Int)).bind fun y1 =>
 (bif y1 then
 (F29 a1 (-10000000 : Int)).bind fun y2 =>
 (bif y2 then
 (F29 a2 (-10000000 : Int)).bind fun y3 =>
 (bif y3 then
 (F29 a3 (-10000000 : Int)).bind fun y4 =>
 (bif y4 then
 (bif (decide (a0 < a2)) then
 some (decide (a1 < a3))
 else
 some false)
 else
 some false)
 else
 some false)
 else
 some false)
 else
 some false)

theorem c28 {a0 : Int} {a1 : Int} {a2 : Int} {a3 : Int} {r : Bool} (h : F28 a0 a1 a2 a3 = some r) : CallPure Pg 28 [(.d t2 a0), (.d t2 a1), (.d t2 a2), (.d t2 a3)] (.d t4 r) := by
  refine qC c_28 38 [.tmp 8] [4] Go.Proofs.Tryz.func28 ?_
  show Run Pg 38 c_28 ⟨[(0, .d t2 a0), (1, .d t2 a1), (2, .d t2 a2), (3, .d t2 a3)], []⟩ (fin28 r)
  unfold F28 at h
  refine qN [] 100 ⟨[(0, .d t2 a0), (1, .d t2 a1), (2, .d t2 a2), (3, .d t2 a3)], []⟩ aN ?_
  refine qN [] 200 ⟨[(0, .d t2 a0), (1, .d t2 a1), (2, .d t2 a2), (3, .d t2 a3), (9, .d t2 (-10000000 : Int))], []⟩ aN ?_
  obtain ⟨y1, h_y1, h⟩ := bnd_elim h
  rcases bif_elim h with ⟨hb1, h⟩ | ⟨hb1, h⟩
  · obtain ⟨y2, h_y2, h⟩ := bnd_elim h
    rcases bif_elim h with ⟨hb3, h⟩ | ⟨hb3, h⟩
    · obtain ⟨y3, h_y3, h⟩ := bnd_elim h
      rcases bif_elim h with ⟨hb5, h⟩ | ⟨hb5, h⟩
      · obtain ⟨y4, h_y4, h⟩ := bnd_elim h
        rcases bif_elim h with ⟨hb7, h⟩ | ⟨hb7, h⟩
        · rcases bif_elim h with ⟨hb8, h⟩ | ⟨hb8, h⟩
          · refine qN [(2, .call (.d t4 y1)), (3, .b true), (6, .call (.d t4 y2)), (8, .b true), (11, .call (.d t4 y3)), (13, .b true), (16, .call (.d t4 y4)), (18, .b true), (23, .b true)] 300 ⟨[(8, .d t4 (decide (a1 < a3)))], []⟩ (aC (c29 h_y1) (aC hb1 (aC (c29 h_y2) (aC hb3 (aC (c29 h_y3) (aC hb5 (aC (c29 h_y4) (aC hb7 (aC hb8 aN))))))))) ?_
            refine Run.rt ?_
            obtain rfl := sI h
            exact qR [(.d t4 (decide (a1 < a3)))]
          · refine qN [(2, .call (.d t4 y1)), (3, .b true), (6, .call (.d t4 y2)), (8, .b true), (11, .call (.d t4 y3)), (13, .b true), (16, .call (.d t4 y4)), (18, .b true), (23, .b false)] 300 ⟨[(8, .d t4 false)], []⟩ (aC (c29 h_y1) (aC hb1 (aC (c29 h_y2) (aC hb3 (aC (c29 h_y3) (aC hb5 (aC (c29 h_y4) (aC hb7 (aC hb8 aN))))))))) ?_
            refine Run.rt ?_
            obtain rfl := sI h
            exact qR [(.d t4 false)]
        · refine qN [(2, .call (.d t4 y1)), (3, .b true), (6, .call (.d t4 y2)), (8, .b true), (11, .call (.d t4 y3)), (13, .b true), (16, .call (.d t4 y4)), (18, .b false)] 300 ⟨[(8, .d t4 false)], []⟩ (aC (c29 h_y1) (aC hb1 (aC (c29 h_y2) (aC hb3 (aC (c29 h_y3) (aC hb5 (aC (c29 h_y4) (aC hb7 aN)))))))) ?_
          refine Run.rt ?_
          obtain rfl := sI h
          exact qR [(.d t4 false)]
      · refine qN [(2, .call (.d t4 y1)), (3, .b true), (6, .call (.d t4 y2)), (8, .b true), (11, .call (.d t4 y3)), (13, .b false)] 300 ⟨[(8, .d t4 false)], []⟩ (aC (c29 h_y1) (aC hb1 (aC (c29 h_y2) (aC hb3 (aC (c29 h_y3) (aC hb5 aN)))))) ?_
        refine Run.rt ?_
        obtain rfl := sI h
        exact qR [(.d t4 false)]
    · refine qN [(2, .call (.d t4 y1)), (3, .b true), (6, .call (.d t4 y2)), (8, .b false)] 300 ⟨[(8, .d t4 false)], []⟩ (aC (c29 h_y1) (aC hb1 (aC (c29 h_y2) (aC hb3 aN)))) ?_
      refine Run.rt ?_
      obtain rfl := sI h
      exact qR [(.d t4 false)]
  · refine qN [(2, .call (.d t4 y1)), (3, .b false)] 300 ⟨[(8, .d t4 false)], []⟩ (aC (c29 h_y1) (aC hb1 aN)) ?_
    refine Run.rt ?_
    obtain rfl := sI h
    exact qR [(.d t4 false)]

/-! ## f11 -/

noncomputable def c_11 : Code := body0 Go.Proofs.Tryz.f11

def fin11 (r : Int) : Ex → St → Prop := endK X0 [.tmp 2] [26] (.d t2 r)

def f11_l0_post (x4 : Int × Int × Int × Int × Int × Int × (List (Int × Int × Int × Int × Int)) × Int) : (Bool) → Ex → St → Prop
 | o, x, s => x = .out 0 ∧ s = ⟨[(3, .d t4 o)], []⟩

def f11_l0_b (x4 : Int × Int × Int × Int × Int × Int × (List (Int × Int × Int × Int × Int)) × Int) (again : Bool × Int → Option (Bool)) : Bool × Int → Option (Bool)
 | (x2, x3) =>
 (bif (decide (x3 < (ofN (List.length x4.2.2.2.2.2.2.1)))) then
 (bif x2 then
 gd (0 ≤ x3) <|
 gd (x3 < ((List.length x4.2.2.2.2.2.2.1 : Nat) : Int)) <|
 (F28 (List.getD x4.2.2.2.2.2.2.1 (toN x3) ((0 : Int), (0 : Int), (0 : Int), (0 : Int), (0 : Int))).1 (List.getD x4.2.2.2.2.2.2.1 (toN x3) ((0 : Int), (0 : Int), (0 : Int), (0 : Int), (0 : Int))).2.1 (List.getD x4.2.2.2.2.2.2.1 (toN x3) ((0 : Int), (0 : Int), (0 : Int), (0 : Int), (0 : Int))).2.2.1 (List.getD x4.2.2.2.2.2.2.1 (toN x3) ((0 : Int), (0 : Int), (0 : Int), (0 : Int), (0 : Int))).2.2.2.1).bind fun y6 =>
 (bif y6 then
 (F29 (List.getD x4.2.2.2.2.2.2.1 (toN x3) ((0 : Int), (0 : Int), (0 : Int), (0 : Int), (0 : Int))).2.2.2.2 (max2i (wrapI .i64 ((wrapI .i64 (0 - x4.2.2.2.2.1)) - x4.2.2.2.2.2.1)) (-10000000 : Int))).bind fun y7 =>
 (bif y7 then
 again ((decide ((List.getD x4.2.2.2.2.2.2.1 (toN x3) ((0 : Int), (0 : Int), (0 : Int), (0 : Int), (0 : Int))).2.2.2.2 < x4.2.2.2.2.2.2.2)), (wrapI .i64 (x3 + (1 : Int))))
 else
 again (false, (wrapI .i64 (x3 + (1 : Int)))))
 else
 again (false, (wrapI .i64 (x3 + (1 : Int)))))
 else
 some x2)
 else
 some x2)

def f11_l0 (x4 : Int × Int × Int × Int × Int × Int × (List (Int × Int × Int × Int × Int)) × Int) : Nat → Bool × Int → Option (Bool) := loopF (f11_l0_b x4)

theorem f11_l0_ok (x4 : Int × Int × Int × Int × Int × Int × (List (Int × Int × Int × Int × Int)) × Int) (k : Nat) (x2 : Bool) (x3 : Int) {out : (Bool)} (h : f11_l0 x4 k (x2, x3) = some out) : Run Pg 81 (bk1 (sq2 (sq1 (sq2 (sq2 c_11))))) ⟨[(1, .ptr 100 0), (3, .d t4 x2), (4, .d t2 x3)], [(100, bx 24 t23 x4)]⟩ (f11_l0_post x4 out) := by
  refine Run.loopN (by kernel_rfl) (fun m s => ∃ x2 x3, s = ⟨[(1, .ptr 100 0), (3, .d t4 x2), (4, .d t2 x3)], [(100, bx 24 t23 x4)]⟩ ∧ f11_l0 x4 m (x2, x3) = some out) ?_ k ⟨x2, x3,  rfl, h⟩
  rintro m s ⟨x2, x3,  rfl, h⟩
  cases m with
  | zero => cases h
  | succ m =>
  replace h : f11_l0_b x4 (f11_l0 x4 m) (x2, x3) = some out := h
  unfold f11_l0_b at h
  refine Run.sq ?_
  rcases bif_elim h with ⟨hb0, h⟩ | ⟨hb0, h⟩
  · refine qN [(5, .b true)] 400 ⟨[(1, .ptr 100 0), (3, .d t4 x2), (4, .d t2 x3), (43, .d t4 x2)], [(100, bx 24 t23 x4)]⟩ (aC hb0 aN) ?_
    refine Run.cd x2 (fun hb => ?_) (fun hb => ?_)
    · replace h := bif_t h hb
      refine Run.sk ?_
      show Run Pg 81 _ _ _
      refine Run.sq ?_
      refine Run.bl 1 ?_
      obtain ⟨g_0, h⟩ := gd_elim h
      obtain ⟨g_1, h⟩ := gd_elim h
      refine qN [] 600 ⟨[(1, .ptr 100 0), (4, .d t2 x3), (5, .ptr 605 0)], [(100, bx 24 t23 x4), (605, bx 57 t56 (List.getD x4.2.2.2.2.2.2.1 (toN x3) ((0 : Int), (0 : Int), (0 : Int), (0 : Int), (0 : Int))))]⟩ (aC g_0 (aC g_1 aN)) ?_
      obtain ⟨y6, h_y6, h⟩ := bnd_elim h
      rcases bif_elim h with ⟨hb1, h⟩ | ⟨hb1, h⟩
      · obtain ⟨y7, h_y7, h⟩ := bnd_elim h
        rcases bif_elim h with ⟨hb3, h⟩ | ⟨hb3, h⟩
        · refine qE [(8, .call (.d t4 y6)), (9, .b true), (19, .call (.d t4 y7)), (21, .b true)] 700 ⟨[(1, .ptr 100 0), (3, .d t4 (decide ((List.getD x4.2.2.2.2.2.2.1 (toN x3) ((0 : Int), (0 : Int), (0 : Int), (0 : Int), (0 : Int))).2.2.2.2 < x4.2.2.2.2.2.2.2))), (4, .d t2 x3)], [(100, bx 24 t23 x4)]⟩ (aC (c28 h_y6) (aC hb1 (aC (c29 h_y7) (aC hb3 aN)))) ?_
          show Run Pg 81 _ _ _
          refine qE [] 500 ⟨[(1, .ptr 100 0), (3, .d t4 (decide ((List.getD x4.2.2.2.2.2.2.1 (toN x3) ((0 : Int), (0 : Int), (0 : Int), (0 : Int), (0 : Int))).2.2.2.2 < x4.2.2.2.2.2.2.2))), (4, .d t2 (wrapI .i64 (x3 + (1 : Int))))], [(100, bx 24 t23 x4)]⟩ aN ?_
          exact ⟨m, Nat.lt_succ_self m, _, _, rfl, h⟩
        · refine qE [(8, .call (.d t4 y6)), (9, .b true), (19, .call (.d t4 y7)), (21, .b false)] 700 ⟨[(1, .ptr 100 0), (3, .d t4 false), (4, .d t2 x3)], [(100, bx 24 t23 x4)]⟩ (aC (c28 h_y6) (aC hb1 (aC (c29 h_y7) (aC hb3 aN)))) ?_
          show Run Pg 81 _ _ _
          refine qE [] 500 ⟨[(1, .ptr 100 0), (3, .d t4 false), (4, .d t2 (wrapI .i64 (x3 + (1 : Int))))], [(100, bx 24 t23 x4)]⟩ aN ?_
          exact ⟨m, Nat.lt_succ_self m, _, _, rfl, h⟩
      · refine qE [(8, .call (.d t4 y6)), (9, .b false)] 700 ⟨[(1, .ptr 100 0), (3, .d t4 false), (4, .d t2 x3)], [(100, bx 24 t23 x4)]⟩ (aC (c28 h_y6) (aC hb1 aN)) ?_
        show Run Pg 81 _ _ _
        refine qE [] 500 ⟨[(1, .ptr 100 0), (3, .d t4 false), (4, .d t2 (wrapI .i64 (x3 + (1 : Int))))], [(100, bx 24 t23 x4)]⟩ aN ?_
        exact ⟨m, Nat.lt_succ_self m, _, _, rfl, h⟩
    · replace h := bif_f h hb
      refine qK ⟨[(3, .d t4 x2)], []⟩ ?_
      refine Run.ex 0 ?_
      obtain rfl := sI h
      exact ⟨rfl, by kernel_rfl⟩
  · refine qN [(5, .b false)] 400 ⟨[(1, .ptr 100 0), (3, .d t4 x2), (4, .d t2 x3), (43, .d t4 false)], [(100, bx 24 t23 x4)]⟩ (aC hb0 aN) ?_
    refine Run.cd false (fun hb => (by cases hb)) (fun hb => ?_)
    refine qK ⟨[(3, .d t4 x2)], []⟩ ?_
    refine Run.ex 0 ?_
    obtain rfl := sI h
    exact ⟨rfl, by kernel_rfl⟩

def f11_l1_post (x10 : Int × Int × Int × Int × Int × Int × (List (Int × Int × Int × Int × Int)) × Int) : (Bool) → Ex → St → Prop
 | o, x, s => x = .out 0 ∧ s = ⟨[(3, .d t4 o)], []⟩

def f11_l1_b (x10 : Int × Int × Int × Int × Int × Int × (List (Int × Int × Int × Int × Int)) × Int) (again : Bool × Int → Option (Bool)) : Bool × Int → Option (Bool)
 | (x8, x9) =>
 (bif (decide (x9 < (ofN (List.length x10.2.2.2.2.2.2.1)))) then
 (bif x8 then
 gd (0 ≤ x9) <|
 gd (x9 < ((List.length x10.2.2.2.2.2.2.1 : Nat) : Int)) <|
 (F28 (List.getD x10.2.2.2.2.2.2.1 (toN x9) ((0 : Int), (0 : Int), (0 : Int), (0 : Int), (0 : Int))).1 (List.getD x10.2.2.2.2.2.2.1 (toN x9) ((0 : Int), (0 : Int), (0 : Int), (0 : Int), (0 : Int))).2.1 (List.getD x10.2.2.2.2.2.2.1 (toN x9) ((0 : Int), (0 : Int), (0 : Int), (0 : Int), (0 : Int))).2.2.1 (List.getD x10.2.2.2.2.2.2.1 (toN x9) ((0 : Int), (0 : Int), (0 : Int), (0 : Int), (0 : Int))).2.2.2.1).bind fun y12 =>
 (bif y12 then
 (F29 (List.getD x10.2.2.2.2.2.2.1 (toN x9) ((0 : Int), (0 : Int), (0 : Int), (0 : Int), (0 : Int))).2.2.2.2 (max2i (wrapI .i64 ((wrapI .i64 (0 - x10.2.2.2.2.1)) - x10.2.2.2.2.2.1)) (-10000000 : Int))).bind fun y13 =>
 (bif y13 then
 again ((decide ((List.getD x10.2.2.2.2.2.2.1 (toN x9) ((0 : Int), (0 : Int), (0 : Int), (0 : Int), (0 : Int))).2.2.2.2 < x10.2.2.2.2.2.2.2)), (wrapI .i64 (x9 + (1 : Int))))
 else
 again (false, (wrapI .i64 (x9 + (1 : Int)))))
 else
 again (false, (wrapI .i64 (x9 + (1 : Int)))))
 else
 some x8)
 else
 some x8)

def f11_l1 (x10 : Int × Int × Int × Int × Int × Int × (List (Int × Int × Int × Int × Int)) × Int) : Nat → Bool × Int → Option (Bool) := loopF (f11_l1_b x10)

theorem f11_l1_ok (x10 : Int × Int × Int × Int × Int × Int × (List (Int × Int × Int × Int × Int)) × Int) (k : Nat) (x8 : Bool) (x9 : Int) {out : (Bool)} (h : f11_l1 x10 k (x8, x9) = some out) : Run Pg 81 (bk1 (sq2 (sq1 (sq2 (sq2 c_11))))) ⟨[(1, .ptr 100 0), (3, .d t4 x8), (4, .d t2 x9)], [(100, bx 24 t23 x10)]⟩ (f11_l1_post x10 out) := by
  refine Run.loopN (by kernel_rfl) (fun m s => ∃ x8 x9, s = ⟨[(1, .ptr 100 0), (3, .d t4 x8), (4, .d t2 x9)], [(100, bx 24 t23 x10)]⟩ ∧ f11_l1 x10 m (x8, x9) = some out) ?_ k ⟨x8, x9,  rfl, h⟩
  rintro m s ⟨x8, x9,  rfl, h⟩
  cases m with
  | zero => cases h
  | succ m =>
  replace h : f11_l1_b x10 (f11_l1 x10 m) (x8, x9) = some out := h
  unfold f11_l1_b at h
  refine Run.sq ?_
  rcases bif_elim h with ⟨hb0, h⟩ | ⟨hb0, h⟩
  · refine qN [(5, .b true)] 400 ⟨[(1, .ptr 100 0), (3, .d t4 x8), (4, .d t2 x9), (43, .d t4 x8)], [(100, bx 24 t23 x10)]⟩ (aC hb0 aN) ?_
    refine Run.cd x8 (fun hb => ?_) (fun hb => ?_)
    · replace h := bif_t h hb
      refine Run.sk ?_
      show Run Pg 81 _ _ _
      refine Run.sq ?_
      refine Run.bl 1 ?_
      obtain ⟨g_0, h⟩ := gd_elim h
      obtain ⟨g_1, h⟩ := gd_elim h
      refine qN [] 600 ⟨[(1, .ptr 100 0), (4, .d t2 x9), (5, .ptr 605 0)], [(100, bx 24 t23 x10), (605, bx 57 t56 (List.getD x10.2.2.2.2.2.2.1 (toN x9) ((0 : Int), (0 : Int), (0 : Int), (0 : Int), (0 : Int))))]⟩ (aC g_0 (aC g_1 aN)) ?_
      obtain ⟨y12, h_y12, h⟩ := bnd_elim h
      rcases bif_elim h with ⟨hb1, h⟩ | ⟨hb1, h⟩
      · obtain ⟨y13, h_y13, h⟩ := bnd_elim h
        rcases bif_elim h with ⟨hb3, h⟩ | ⟨hb3, h⟩
        · refine qE [(8, .call (.d t4 y12)), (9, .b true), (19, .call (.d t4 y13)), (21, .b true)] 700 ⟨[(1, .ptr 100 0), (3, .d t4 (decide ((List.getD x10.2.2.2.2.2.2.1 (toN x9) ((0 : Int), (0 : Int), (0 : Int), (0 : Int), (0 : Int))).2.2.2.2 < x10.2.2.2.2.2.2.2))), (4, .d t2 x9)], [(100, bx 24 t23 x10)]⟩ (aC (c28 h_y12) (aC hb1 (aC (c29 h_y13) (aC hb3 aN)))) ?_
          show Run Pg 81 _ _ _
          refine qE [] 500 ⟨[(1, .ptr 100 0), (3, .d t4 (decide ((List.getD x10.2.2.2.2.2.2.1 (toN x9) ((0 : Int), (0 : Int), (0 : Int), (0 : Int), (0 : Int))).2.2.2.2 < x10.2.2.2.2.2.2.2))), (4, .d t2 (wrapI .i64 (x9 + (1 : Int))))], [(100, bx 24 t23 x10)]⟩ aN ?_
          exact ⟨m, Nat.lt_succ_self m, _, _, rfl, h⟩
        · refine qE [(8, .call (.d t4 y12)), (9, .b true), (19, .call (.d t4 y13)), (21, .b false)] 700 ⟨[(1, .ptr 100 0), (3, .d t4 false), (4, .d t2 x9)], [(100, bx 24 t23 x10)]⟩ (aC (c28 h_y12) (aC hb1 (aC (c29 h_y13) (aC hb3 aN)))) ?_
          show Run Pg 81 _ _ _
          refine qE [] 500 ⟨[(1, .ptr 100 0), (3, .d t4 false), (4, .d t2 (wrapI .i64 (x9 + (1 : Int))))], [(100, bx 24 t23 x10)]⟩ aN ?_
          exact ⟨m, Nat.lt_succ_self m, _, _, rfl, h⟩
      · refine qE [(8, .call (.d t4 y12)), (9, .b false)] 700 ⟨[(1, .ptr 100 0), (3, .d t4 false), (4, .d t2 x9)], [(100, bx 24 t23 x10)]⟩ (aC (c28 h_y12) (aC hb1 aN)) ?_
        show Run Pg 81 _ _ _
        refine qE [] 500 ⟨[(1, .ptr 100 0), (3, .d t4 false), (4, .d t2 (wrapI .i64 (x9 + (1 : Int))))], [(100, bx 24 t23 x10)]⟩ aN ?_
        exact ⟨m, Nat.lt_succ_self m, _, _, rfl, h⟩
    · replace h := bif_f h hb
      refine qK ⟨[(3, .d t4 x8)], []⟩ ?_
      refine Run.ex 0 ?_
      obtain rfl := sI h
      exact ⟨rfl, by kernel_rfl⟩
  · refine qN [(5, .b false)] 400 ⟨[(1, .ptr 100 0), (3, .d t4 x8), (4, .d t2 x9), (43, .d t4 false)], [(100, bx 24 t23 x10)]⟩ (aC hb0 aN) ?_
    refine Run.cd false (fun hb => (by cases hb)) (fun hb => ?_)
    refine qK ⟨[(3, .d t4 x8)], []⟩ ?_
    refine Run.ex 0 ?_
    obtain rfl := sI h
    exact ⟨rfl, by kernel_rfl⟩

def f11_l2_post (x16 : Int × Int × Int × Int × Int × Int × (List (Int × Int × Int × Int × Int)) × Int) : (Bool) → Ex → St → Prop
 | o, x, s => x = .out 0 ∧ s = ⟨[(3, .d t4 o)], []⟩

def f11_l2_b (x16 : Int × Int × Int × Int × Int × Int × (List (Int × Int × Int × Int × Int)) × Int) (again : Bool × Int → Option (Bool)) : Bool × Int → Option (Bool)
 | (x14, x15) =>
 (bif (decide (x15 < (ofN (List.length x16.2.2.2.2.2.2.1)))) then
 (bif x14 then
 gd (0 ≤ x15) <|
 gd (x15 < ((List.length x16.2.2.2.2.2.2.1 : Nat) : Int)) <|
 (F28 (List.getD x16.2.2.2.2.2.2.1 (toN x15) ((0 : Int), (0 : Int), (0 : Int), (0 : Int), (0 : Int))).1 (List.getD x16.2.2.2.2.2.2.1 (toN x15) ((0 : Int), (0 : Int), (0 : Int), (0 : Int), (0 : Int))).2.1 (List.getD x16.2.2.2.2.2.2.1 (toN x15) ((0 : Int), (0 : Int), (0 : Int), (0 : Int), (0 : Int))).2.2.1 (List.getD x16.2.2.2.2.2.2.1 (toN x15) ((0 : Int), (0 : Int), (0 : Int), (0 : Int), (0 : Int))).2.2.2.1).bind fun y18 =>
 (bif y18 then
 (F29 (List.getD x16.2.2.2.2.2.2.1 (toN x15) ((0 : Int), (0 : Int), (0 : Int), (0 : Int), (0 : Int))).2.2.2.2 (max2i (wrapI .i64 ((wrapI .i64 (0 - x16.2.2.2.2.1)) - x16.2.2.2.2.2.1)) (-10000000 : Int))).bind fun y19 =>
 (bif y19 then
 again ((decide ((List.getD x16.2.2.2.2.2.2.1 (toN x15) ((0 : Int), (0 : Int), (0 : Int), (0 : Int), (0 : Int))).2.2.2.2 < x16.2.2.2.2.2.2.2)), (wrapI .i64 (x15 + (1 : Int))))
 else
 again (false, (wrapI .i64 (x15 + (1 : Int)))))
 else
 again (false, (wrapI .i64 (x15 + (1 : Int)))))
 else
 some x14)
 else
 some x14)

def f11_l2 (x16 : Int × Int × Int × Int × Int × Int × (List (Int × Int × Int × Int × Int)) × Int) : Nat → Bool × Int → Option (Bool) := loopF (f11_l2_b x16)

theorem f11_l2_ok (x16 : Int × Int × Int × Int × Int × Int × (List (Int × Int × Int × Int × Int)) × Int) (k : Nat) (x14 : Bool) (x15 : Int) {out : (Bool)} (h : f11_l2 x16 k (x14, x15) = some out) : Run Pg 81 (bk1 (sq2 (sq1 (sq2 (sq2 c_11))))) ⟨[(1, .ptr 100 0), (3, .d t4 x14), (4, .d t2 x15)], [(100, bx 24 t23 x16)]⟩ (f11_l2_post x16 out) := by
  refine Run.loopN (by kernel_rfl) (fun m s => ∃ x14 x15, s = ⟨[(1, .ptr 100 0), (3, .d t4 x14), (4, .d t2 x15)], [(100, bx 24 t23 x16)]⟩ ∧ f11_l2 x16 m (x14, x15) = some out) ?_ k ⟨x14, x15,  rfl, h⟩
  rintro m s ⟨x14, x15,  rfl, h⟩
  cases m with
  | zero => cases h
  | succ m =>
  replace h : f11_l2_b x16 (f11_l2 x16 m) (x14, x15) = some out := h
  unfold f11_l2_b at h
  refine Run.sq ?_
  rcases bif_elim h with ⟨hb0, h⟩ | ⟨hb0, h⟩
  · refine qN [(5, .b true)] 400 ⟨[(1, .ptr 100 0), (3, .d t4 x14), (4, .d t2 x15), (43, .d t4 x14)], [(100, bx 24 t23 x16)]⟩ (aC hb0 aN) ?_
    refine Run.cd x14 (fun hb => ?_) (fun hb => ?_)
    · replace h := bif_t h hb
      refine Run.sk ?_
      show Run Pg 81 _ _ _
      refine Run.sq ?_
      refine Run.bl 1 ?_
      obtain ⟨g_0, h⟩ := gd_elim h
      obtain ⟨g_1, h⟩ := gd_elim h
      refine qN [] 600 ⟨[(1, .ptr 100 0), (4, .d t2 x15), (5, .ptr 605 0)], [(100, bx 24 t23 x16), (605, bx 57 t56 (List.getD x16.2.2.2.2.2.2.1 (toN x15) ((0 : Int), (0 : Int), (0 : Int), (0 : Int), (0 : Int))))]⟩ (aC g_0 (aC g_1 aN)) ?_
      obtain ⟨y18, h_y18, h⟩ := bnd_elim h
      rcases bif_elim h with ⟨hb1, h⟩ | ⟨hb1, h⟩
      · obtain ⟨y19, h_y19, h⟩ := bnd_elim h
        rcases bif_elim h with ⟨hb3, h⟩ | ⟨hb3, h⟩
        · refine qE [(8, .call (.d t4 y18)), (9, .b true), (19, .call (.d t4 y19)), (21, .b true)] 700 ⟨[(1, .ptr 100 0), (3, .d t4 (decide ((List.getD x16.2.2.2.2.2.2.1 (toN x15) ((0 : Int), (0 : Int), (0 : Int), (0 : Int), (0 : Int))).2.2.2.2 < x16.2.2.2.2.2.2.2))), (4, .d t2 x15)], [(100, bx 24 t23 x16)]⟩ (aC (c28 h_y18) (aC hb1 (aC (c29 h_y19) (aC hb3 aN)))) ?_
          show Run Pg 81 _ _ _
          refine qE [] 500 ⟨[(1, .ptr 100 0), (3, .d t4 (decide ((List.getD x16.2.2.2.2.2.2.1 (toN x15) ((0 : Int), (0 : Int), (0 : Int), (0 : Int), (0 : Int))).2.2.2.2 < x16.2.2.2.2.2.2.2))), (4, .d t2 (wrapI .i64 (x15 + (1 : Int))))], [(100, bx 24 t23 x16)]⟩ aN ?_
          exact ⟨m, Nat.lt_succ_self m, _, _, rfl, h⟩
        · refine qE [(8, .call (.d t4 y18)), (9, .b true), (19, .call (.d t4 y19)), (21, .b false)] 700 ⟨[(1, .ptr 100 0), (3, .d t4 false), (4, .d t2 x15)], [(100, bx 24 t23 x16)]⟩ (aC (c28 h_y18) (aC hb1 (aC (c29 h_y19) (aC hb3 aN)))) ?_
          show Run Pg 81 _ _ _
          refine qE [] 500 ⟨[(1, .ptr 100 0), (3, .d t4 false), (4, .d t2 (wrapI .i64 (x15 + (1 : Int))))], [(100, bx 24 t23 x16)]⟩ aN ?_
          exact ⟨m, Nat.lt_succ_self m, _, _, rfl, h⟩
      · refine qE [(8, .call (.d t4 y18)), (9, .b false)] 700 ⟨[(1, .ptr 100 0), (3, .d t4 false), (4, .d t2 x15)], [(100, bx 24 t23 x16)]⟩ (aC (c28 h_y18) (aC hb1 aN)) ?_
        show Run Pg 81 _ _ _
        refine qE [] 500 ⟨[(1, .ptr 100 0), (3, .d t4 false), (4, .d t2 (wrapI .i64 (x15 + (1 : Int))))], [(100, bx 24 t23 x16)]⟩ aN ?_
        exact ⟨m, Nat.lt_succ_self m, _, _, rfl, h⟩
    · replace h := bif_f h hb
      refine qK ⟨[(3, .d t4 x14)], []⟩ ?_
      refine Run.ex 0 ?_
      obtain rfl := sI h
      exact ⟨rfl, by kernel_rfl⟩
  · refine qN [(5, .b false)] 400 ⟨[(1, .ptr 100 0), (3, .d t4 x14), (4, .d t2 x15), (43, .d t4 false)], [(100, bx 24 t23 x16)]⟩ (aC hb0 aN) ?_
    refine Run.cd false (fun hb => (by cases hb)) (fun hb => ?_)
    refine qK ⟨[(3, .d t4 x14)], []⟩ ?_
    refine Run.ex 0 ?_
    obtain rfl := sI h
    exact ⟨rfl, by kernel_rfl⟩

def f11_l3_post (x22 : Int × Int × Int × Int × Int × Int × (List (Int × Int × Int × Int × Int)) × Int) : (Bool) → Ex → St → Prop
 | o, x, s => x = .out 0 ∧ s = ⟨[(3, .d t4 o)], []⟩

def f11_l3_b (x22 : Int × Int × Int × Int × Int × Int × (List (Int × Int × Int × Int × Int)) × Int) (again : Bool × Int → Option (Bool)) : Bool × Int → Option (Bool)
 | (x20, x21) =>
 (bif (decide (x21 < (ofN (List.length x22.2.2.2.2.2.2.1)))) then
 (bif x20 then
 gd (0 ≤ x21) <|
 gd (x21 < ((List.length x22.2.2.2.2.2.2.1 : Nat) : Int)) <|
 (F28 (List.getD x22.2.2.2.2.2.2.1 (toN x21) ((0 : Int), (0 : Int), (0 : Int), (0 : Int), (0 : Int))).1 (List.getD x22.2.2.2.2.2.2.1 (toN x21) ((0 : Int), (0 : Int), (0 : Int), (0 : Int), (0 : Int))).2.1 (List.getD x22.2.2.2.2.2.2.1 (toN x21) ((0 : Int), (0 : Int), (0 : Int), (0 : Int), (0 : Int))).2.2.1 (List.getD x22.2.2.2.2.2.2.1 (toN x21) ((0 : Int), (0 : Int), (0 : Int), (0 : Int), (0 : Int))).2.2.2.1).bind fun y24 =>
 (bif y24 then
 (F29 (List.getD x22.2.2.2.2.2.2.1 (toN x21) ((0 : Int), (0 : Int), (0 : Int), (0 : Int), (0 : Int))).2.2.2.2 (max2i (wrapI .i64 ((wrapI .i64 (0 - x22.2.2.2.2.1)) - x22.2.2.2.2.2.1)) (-10000000 : Int))).bind fun y25 =>
 (bif y25 then
 again ((decide ((List.getD x22.2.2.2.2.2.2.1 (toN x21) ((0 : Int), (0 : Int), (0 : Int), (0 : Int), (0 : Int))).2.2.2.2 < x22.2.2.2.2.2.2.2)), (wrapI .i64 (x21 + (1 : Int))))
 else
 again (false, (wrapI .i64 (x21 + (1 : Int)))))
 else
 again (false, (wrapI .i64 (x21 + (1 : Int)))))
 else
 some x20)
 else
 some x20)

def f11_l3 (x22 : Int × Int × Int × Int × Int × Int × (List (Int × Int × Int × Int × Int)) × Int) : Nat → Bool × Int → Option (Bool) := loopF (f11_l3_b x22)

theorem f11_l3_ok (x22 : Int × Int × Int × Int × Int × Int × (List (Int × Int × Int × Int × Int)) × Int) (k : Nat) (x20 : Bool) (x21 : Int) {out : (Bool)} (h : f11_l3 x22 k (x20, x21) = some out) : Run Pg 81 (bk1 (sq2 (sq1 (sq2 (sq2 c_11))))) ⟨[(1, .ptr 100 0), (3, .d t4 x20), (4, .d t2 x21)], [(100, bx 24 t23 x22)]⟩ (f11_l3_post x22 out) := by
  refine Run.loopN (by kernel_rfl) (fun m s => ∃ x20 x21, s = ⟨[(1, .ptr 100 0), (3, .d t4 x20), (4, .d t2 x21)], [(100, bx 24 t23 x22)]⟩ ∧ f11_l3 x22 m (x20, x21) = some out) ?_ k ⟨x20, x21,  rfl, h⟩
  rintro m s ⟨x20, x21,  rfl, h⟩
  cases m with
  | zero => cases h
  | succ m =>
  replace h : f11_l3_b x22 (f11_l3 x22 m) (x20, x21) = some out := h
  unfold f11_l3_b at h
  refine Run.sq ?_
  rcases bif_elim h with ⟨hb0, h⟩ | ⟨hb0, h⟩
  · refine qN [(5, .b true)] 400 ⟨[(1, .ptr 100 0), (3, .d t4 x20), (4, .d t2 x21), (43, .d t4 x20)], [(100, bx 24 t23 x22)]⟩ (aC hb0 aN) ?_
    refine Run.cd x20 (fun hb => ?_) (fun hb => ?_)
    · replace h := bif_t h hb
      refine Run.sk ?_
      show Run Pg 81 _ _ _
      refine Run.sq ?_
      refine Run.bl 1 ?_
      obtain ⟨g_0, h⟩ := gd_elim h
      obtain ⟨g_1, h⟩ := gd_elim h
      refine qN [] 600 ⟨[(1, .ptr 100 0), (4, .d t2 x21), (5, .ptr 605 0)], [(100, bx 24 t23 x22), (605, bx 57 t56 (List.getD x22.2.2.2.2.2.2.1 (toN x21) ((0 : Int), (0 : Int), (0 : Int), (0 : Int), (0 : Int))))]⟩ (aC g_0 (aC g_1 aN)) ?_
      obtain ⟨y24, h_y24, h⟩ := bnd_elim h
      rcases bif_elim h with ⟨hb1, h⟩ | ⟨hb1, h⟩
      · obtain ⟨y25, h_y25, h⟩ := bnd_elim h
        rcases bif_elim h with ⟨hb3, h⟩ | ⟨hb3, h⟩
        · refine qE [(8, .call (.d t4 y24)), (9, .b true), (19, .call (.d t4 y25)), (21, .b true)] 700 ⟨[(1, .ptr 100 0), (3, .d t4 (decide ((List.getD x22.2.2.2.2.2.2.1 (toN x21) ((0 : Int), (0 : Int), (0 : Int), (0 : Int), (0 : Int))).2.2.2.2 < x22.2.2.2.2.2.2.2))), (4, .d t2 x21)], [(100, bx 24 t23 x22)]⟩ (aC (c28 h_y24) (aC hb1 (aC (c29 h_y25) (aC hb3 aN)))) ?_
          show Run Pg 81 _ _ _
          refine qE [] 500 ⟨[(1, .ptr 100 0), (3, .d t4 (decide ((List.getD x22.2.2.2.2.2.2.1 (toN x21) ((0 : Int), (0 : Int), (0 : Int), (0 : Int), (0 : Int))).2.2.2.2 < x22.2.2.2.2.2.2.2))), (4, .d t2 (wrapI .i64 (x21 + (1 : Int))))], [(100, bx 24 t23 x22)]⟩ aN ?_
          exact ⟨m, Nat.lt_succ_self m, _, _, rfl, h⟩
        · refine qE [(8, .call (.d t4 y24)), (9, .b true), (19, .call (.d t4 y25)), (21, .b false)] 700 ⟨[(1, .ptr 100 0), (3, .d t4 false), (4, .d t2 x21)], [(100, bx 24 t23 x22)]⟩ (aC (c28 h_y24) (aC hb1 (aC (c29 h_y25) (aC hb3 aN)))) ?_
          show Run Pg 81 _ _ _
          refine qE [] 500 ⟨[(1, .ptr 100 0), (3, .d t4 false), (4, .d t2 (wrapI .i64 (x21 + (1 : Int))))], [(100, bx 24 t23 x22)]⟩ aN ?_
          exact ⟨m, Nat.lt_succ_self m, _, _, rfl, h⟩
      · refine qE [(8, .call (.d t4 y24)), (9, .b false)] 700 ⟨[(1, .ptr 100 0), (3, .d t4 false), (4, .d t2 x21)], [(100, bx 24 t23 x22)]⟩ (aC (c28 h_y24) (aC hb1 aN)) ?_
        show Run Pg 81 _ _ _
        refine qE [] 500 ⟨[(1, .ptr 100 0), (3, .d t4 false), (4, .d t2 (wrapI .i64 (x21 + (1 : Int))))], [(100, bx 24 t23 x22)]⟩ aN ?_
        exact ⟨m, Nat.lt_succ_self m, _, _, rfl, h⟩
    · replace h := bif_f h hb
      refine qK ⟨[(3, .d t4 x20)], []⟩ ?_
      refine Run.ex 0 ?_
      obtain rfl := sI h
      exact ⟨rfl, by kernel_rfl⟩
  · refine qN [(5, .b false)] 400 ⟨[(1, .ptr 100 0), (3, .d t4 x20), (4, .d t2 x21), (43, .d t4 false)], [(100, bx 24 t23 x22)]⟩ (aC hb0 aN) ?_
    refine Run.cd false (fun hb => (by cases hb)) (fun hb => ?_)
    refine qK ⟨[(3, .d t4 x20)], []⟩ ?_
    refine Run.ex 0 ?_
    obtain rfl := sI h
    exact ⟨rfl, by kernel_rfl⟩

def f11_l4_post (x28 : Int × Int × Int × Int × Int × Int × (List (Int × Int × Int × Int × Int)) × Int) : (Bool) → Ex → St → Prop
 | o, x, s => x = .out 0 ∧ s = ⟨[(3, .d t4 o)], []⟩

def f11_l4_b (x28 : Int × Int × Int × Int × Int × Int × (List (Int × Int × Int × Int × Int)) × Int) (again : Bool × Int → Option (Bool)) : Bool × Int → Option (Bool)
 | (x26, x27) =>
 (bif (decide (x27 < (ofN (List.length x28.2.2.2.2.2.2.1)))) then
 (bif x26 then
 gd (0 ≤ x27) <|
 gd (x27 < ((List.length x28.2.2.2.2.2.2.1 : Nat) : Int)) <|
 (F28 (List.getD x28.2.2.2.2.2.2.1 (toN x27) ((0 : Int), (0 : Int), (0 : Int), (0 : Int), (0 : Int))).1 (List.getD x28.2.2.2.2.2.2.1 (toN x27) ((0 : Int), (0 : Int), (0 : Int), (0 : Int), (0 : Int))).2.1 (List.getD x28.2.2.2.2.2.2.1 (toN x27) ((0 : Int), (0 : Int), (0 : Int), (0 : Int), (0 : Int))).2.2.1 (List.getD x28.2.2.2.2.2.2.1 (toN x27) ((0 : Int), (0 : Int), (0 : Int), (0 : Int), (0 : Int))).2.2.2.1).bind fun y30 =>
 (bif y30 then
 (F29 (List.getD x28.2.2.2.2.2.2.1 (toN x27) ((0 : Int), (0 : Int), (0 : Int), (0 : Int), (0 : Int))).2.2.2.2 (max2i (wrapI .i64 ((wrapI .i64 (0 - x28.2.2.2.2.1)) - x28.2.2.2.2.2.1)) (-10000000 : Int))).bind fun y31 =>
 (bif y31 then
 again ((decide ((List.getD x28.2.2.2.2.2.2.1 (toN x27) ((0 : Int), (0 : Int), (0 : Int), (0 : Int), (0 : Int))).2.2.2.2 < x28.2.2.2.2.2.2.2)), (wrapI .i64 (x27 + (1 : Int))))
 else
 again (false, (wrapI .i64 (x27 + (1 : Int)))))
 else
 again (false, (wrapI .i64 (x27 + (1 : Int)))))
 else
 some x26)
 else
 some x26)

def f11_l4 (x28 : Int × Int × Int × Int × Int × Int × (List (Int × Int × Int × Int × Int)) × Int) : Nat → Bool × Int → Option (Bool) := loopF (f11_l4_b x28)

theorem f11_l4_ok (x28 : Int × Int × Int × Int × Int × Int × (List (Int × Int × Int × Int × Int)) × Int) (k : Nat) (x26 : Bool) (x27 : Int) {out : (Bool)} (h : f11_l4 x28 k (x26, x27) = some out) : Run Pg 81 (bk1 (sq2 (sq1 (sq2 (sq2 c_11))))) ⟨[(1, .ptr 100 0), (3, .d t4 x26), (4, .d t2 x27)], [(100, bx 24 t23 x28)]⟩ (f11_l4_post x28 out) := by
  refine Run.loopN (by kernel_rfl) (fun m s => ∃ x26 x27, s = ⟨[(1, .ptr 100 0), (3, .d t4 x26), (4, .d t2 x27)], [(100, bx 24 t23 x28)]⟩ ∧ f11_l4 x28 m (x26, x27) = some out) ?_ k ⟨x26, x27,  rfl, h⟩
  rintro m s ⟨x26, x27,  rfl, h⟩
  cases m with
  | zero => cases h
  | succ m =>
  replace h : f11_l4_b x28 (f11_l4 x28 m) (x26, x27) = some out := h
  unfold f11_l4_b at h
  refine Run.sq ?_
  rcases bif_elim h with ⟨hb0, h⟩ | ⟨hb0, h⟩
  · refine qN [(5, .b true)] 400 ⟨[(1, .ptr 100 0), (3, .d t4 x26), (4, .d t2 x27), (43, .d t4 x26)], [(100, bx 24 t23 x28)]⟩ (aC hb0 aN) ?_
    refine Run.cd x26 (fun hb => ?_) (fun hb => ?_)
    · replace h := bif_t h hb
      refine Run.sk ?_
      show Run Pg 81 _ _ _
      refine Run.sq ?_
      refine Run.bl 1 ?_
      obtain ⟨g_0, h⟩ := gd_elim h
      obtain ⟨g_1, h⟩ := gd_elim h
      refine qN [] 600 ⟨[(1, .ptr 100 0), (4, .d t2 x27), (5, .ptr 605 0)], [(100, bx 24 t23 x28), (605, bx 57 t56 (List.getD x28.2.2.2.2.2.2.1 (toN x27) ((0 : Int), (0 : Int), (0 : Int), (0 : Int), (0 : Int))))]⟩ (aC g_0 (aC g_1 aN)) ?_
      obtain ⟨y30, h_y30, h⟩ := bnd_elim h
      rcases bif_elim h with ⟨hb1, h⟩ | ⟨hb1, h⟩
      · obtain ⟨y31, h_y31, h⟩ := bnd_elim h
        rcases bif_elim h with ⟨hb3, h⟩ | ⟨hb3, h⟩
        · refine qE [(8, .call (.d t4 y30)), (9, .b true), (19, .call (.d t4 y31)), (21, .b true)] 700 ⟨[(1, .ptr 100 0), (3, .d t4 (decide ((List.getD x28.2.2.2.2.2.2.1 (toN x27) ((0 : Int), (0 : Int), (0 : Int), (0 : Int), (0 : Int))).2.2.2.2 < x28.2.2.2.2.2.2.2))), (4, .d t2 x27)], [(100, bx 24 t23 x28)]⟩ (aC (c28 h_y30) (aC hb1 (aC (c29 h_y31) (aC hb3 aN)))) ?_
          show Run Pg 81 _ _ _
          refine qE [] 500 ⟨[(1, .ptr 100 0), (3, .d t4 (decide ((List.getD x28.2.2.2.2.2.2.1 (toN x27) ((0 : Int), (0 : Int), (0 : Int), (0 : Int), (0 : Int))).2.2.2.2 < x28.2.2.2.2.2.2.2))), (4, .d t2 (wrapI .i64 (x27 + (1 : Int))))], [(100, bx 24 t23 x28)]⟩ aN ?_
          exact ⟨m, Nat.lt_succ_self m, _, _, rfl, h⟩
        · refine qE [(8, .call (.d t4 y30)), (9, .b true), (19, .call (.d t4 y31)), (21, .b false)] 700 ⟨[(1, .ptr 100 0), (3, .d t4 false), (4, .d t2 x27)], [(100, bx 24 t23 x28)]⟩ (aC (c28 h_y30) (aC hb1 (aC (c29 h_y31) (aC hb3 aN)))) ?_
          show Run Pg 81 _ _ _
          refine qE [] 500 ⟨[(1, .ptr 100 0), (3, .d t4 false), (4, .d t2 (wrapI .i64 (x27 + (1 : Int))))], [(100, bx 24 t23 x28)]⟩ aN ?_
          exact ⟨m, Nat.lt_succ_self m, _, _, rfl, h⟩
      · refine qE [(8, .call (.d t4 y30)), (9, .b false)] 700 ⟨[(1, .ptr 100 0), (3, .d t4 false), (4, .d t2 x27)], [(100, bx 24 t23 x28)]⟩ (aC (c28 h_y30) (aC hb1 aN)) ?_
        show Run Pg 81 _ _ _
        refine qE [] 500 ⟨[(1, .ptr 100 0), (3, .d t4 false), (4, .d t2 (wrapI .i64 (x27 + (1 : Int))))], [(100, bx 24 t23 x28)]⟩ aN ?_
        exact ⟨m, Nat.lt_succ_self m, _, _, rfl, h⟩
    · replace h := bif_f h hb
      refine qK ⟨[(3, .d t4 x26)], []⟩ ?_
      refine Run.ex 0 ?_
      obtain rfl := sI h
      exact ⟨rfl, by kernel_rfl⟩
  · refine qN [(5, .b false)] 400 ⟨[(1, .ptr 100 0), (3, .d t4 x26), (4, .d t2 x27), (43, .d t4 false)], [(100, bx 24 t23 x28)]⟩ (aC hb0 aN) ?_
    refine Run.cd false (fun hb => (by cases hb)) (fun hb => ?_)
    refine qK ⟨[(3, .d t4 x26)], []⟩ ?_
    refine Run.ex 0 ?_
    obtain rfl := sI h
    exact ⟨rfl, by kernel_rfl⟩

def F11 (a0 : Int × Int × Int × Int × Int × Int × (List (Int × Int × Int × Int × Int)) × Int) : Option (Int) :=
 (F28 a0.1 a0.2.1 a0.2.2.1 a0.2.2.2.1).bind fun y1 =>
 (bif y1 then
 (F29 a0.2.2.2.2.1 (1 : Int)).bind fun y2 =>
 (bif y2 then
 (F29 a0.2.2.2.2.2.1 (0 : Int)).bind fun y3 =>
 (bif y3 then
 (bif (decide ((ofN (List.length a0.2.2.2.2.2.2.1)) ≤ (50 : Int))) then
 (F29 a0.2.2.2.2.2.2.2 (1 : Int)).bind fun y4 =>
 ((f11_l0 a0 (2 + List.length a0.2.2.2.2.2.2.1) (y4, (0 : Int))).bind fun o7 =>
 (bif (!o7) then
 some (1 : Int)
 else
 some (0 : Int)))
 else
 ((f11_l1 a0 (2 + List.length a0.2.2.2.2.2.2.1) (false, (0 : Int))).bind fun o13 =>
 (bif (!o13) then
 some (1 : Int)
 else
 some (0 : Int))))
 else
 ((f11_l2 a0 (2 + List.length a0.2.2.2.2.2.2.1) (false, (0 : Int))).bind fun o19 =>
 (bif (!o19) then
 some (1 : Int)
 else
 some (0 : Int))))
 else
 ((f11_l3 a0 (2 + List.length a0.2.2.2.2.2.2.1) (false, (0 : Int))).bind fun o25 =>
 (bif (!o25) then
 some (1 : Int)
 else
 some (0 : Int))))
 else
 ((f11_l4 a0 (2 + List.length a0.2.2.2.2.2.2.1) (false, (0 : Int))).bind fun o31 =>
 (bif (!o31) then
 some (1 : Int)
 else
 some (0 : Int))))

theorem c11 {a0 : Int × Int × Int × Int × Int × Int × (List (Int × Int × Int × Int × Int)) × Int} {r : Int} (h : F11 a0 = some r) : CallPure Pg 11 [(.d t23 a0)] (.d t2 r) := by
  refine qC c_11 81 [.tmp 2] [26] Go.Proofs.Tryz.func11 ?_
  show Run Pg 81 c_11 ⟨[(0, .d t23 a0)], []⟩ (fin11 r)
  unfold F11 at h
  refine qN [] 100 ⟨[(1, .ptr 100 0)], [(100, bx 24 t23 a0)]⟩ aN ?_
  obtain ⟨y1, h_y1, h⟩ := bnd_elim h
  rcases bif_elim h with ⟨hb1, h⟩ | ⟨hb1, h⟩
  · obtain ⟨y2, h_y2, h⟩ := bnd_elim h
    rcases bif_elim h with ⟨hb3, h⟩ | ⟨hb3, h⟩
    · obtain ⟨y3, h_y3, h⟩ := bnd_elim h
      rcases bif_elim h with ⟨hb5, h⟩ | ⟨hb5, h⟩
      · rcases bif_elim h with ⟨hb6, h⟩ | ⟨hb6, h⟩
        · obtain ⟨y4, h_y4, h⟩ := bnd_elim h
          refine qN [(8, .call (.d t4 y1)), (9, .b true), (12, .call (.d t4 y2)), (14, .b true), (17, .call (.d t4 y3)), (19, .b true), (25, .b true), (28, .call (.d t4 y4))] 200 ⟨[(1, .ptr 100 0), (3, .d t4 y4)], [(100, bx 24 t23 a0)]⟩ (aC (c28 h_y1) (aC hb1 (aC (c29 h_y2) (aC hb3 (aC (c29 h_y3) (aC hb5 (aC hb6 (aC (c29 h_y4) aN)))))))) ?_
          refine Run.sq ?_
          refine qN [] 300 ⟨[(1, .ptr 100 0), (3, .d t4 y4), (4, .d t2 (0 : Int))], [(100, bx 24 t23 a0)]⟩ aN ?_
          refine Run.bl 0 ?_
          obtain ⟨o7, h_o7, h⟩ := bnd_elim h
          refine Run.mono (f11_l0_ok a0 _ y4 (0 : Int) h_o7) ?_
          rintro _ _ ⟨rfl, rfl⟩
          show Run Pg 81 _ _ _
          refine Run.sq ?_
          refine qN [] 800 ⟨[(80, .d t4 (!o7))], []⟩ aN ?_
          refine Run.cd (!o7) (fun hb => ?_) (fun hb => ?_)
          · replace h := bif_t h hb
            refine qN [] 900 ⟨[(2, .d t2 (1 : Int))], []⟩ aN ?_
            refine Run.rt ?_
            obtain rfl := sI h
            exact qR [(.d t2 (1 : Int))]
          · replace h := bif_f h hb
            refine Run.sk ?_
            show Run Pg 81 _ _ _
            refine qN [] 1000 ⟨[(2, .d t2 (0 : Int))], []⟩ aN ?_
            refine Run.rt ?_
            obtain rfl := sI h
            exact qR [(.d t2 (0 : Int))]
        · refine qN [(8, .call (.d t4 y1)), (9, .b true), (12, .call (.d t4 y2)), (14, .b true), (17, .call (.d t4 y3)), (19, .b true), (25, .b false)] 200 ⟨[(1, .ptr 100 0), (3, .d t4 false)], [(100, bx 24 t23 a0)]⟩ (aC (c28 h_y1) (aC hb1 (aC (c29 h_y2) (aC hb3 (aC (c29 h_y3) (aC hb5 (aC hb6 aN))))))) ?_
          refine Run.sq ?_
          refine qN [] 300 ⟨[(1, .ptr 100 0), (3, .d t4 false), (4, .d t2 (0 : Int))], [(100, bx 24 t23 a0)]⟩ aN ?_
          refine Run.bl 0 ?_
          obtain ⟨o13, h_o13, h⟩ := bnd_elim h
          refine Run.mono (f11_l1_ok a0 _ false (0 : Int) h_o13) ?_
          rintro _ _ ⟨rfl, rfl⟩
          show Run Pg 81 _ _ _
          refine Run.sq ?_
          refine qN [] 800 ⟨[(80, .d t4 (!o13))], []⟩ aN ?_
          refine Run.cd (!o13) (fun hb => ?_) (fun hb => ?_)
          · replace h := bif_t h hb
            refine qN [] 900 ⟨[(2, .d t2 (1 : Int))], []⟩ aN ?_
            refine Run.rt ?_
            obtain rfl := sI h
            exact qR [(.d t2 (1 : Int))]
          · replace h := bif_f h hb
            refine Run.sk ?_
            show Run Pg 81 _ _ _
            refine qN [] 1000 ⟨[(2, .d t2 (0 : Int))], []⟩ aN ?_
            refine Run.rt ?_
            obtain rfl := sI h
            exact qR [(.d t2 (0 : Int))]
      · refine qN [(8, .call (.d t4 y1)), (9, .b true), (12, .call (.d t4 y2)), (14, .b true), (17, .call (.d t4 y3)), (19, .b false)] 200 ⟨[(1, .ptr 100 0), (3, .d t4 false)], [(100, bx 24 t23 a0)]⟩ (aC (c28 h_y1) (aC hb1 (aC (c29 h_y2) (aC hb3 (aC (c29 h_y3) (aC hb5 aN)))))) ?_
        refine Run.sq ?_
        refine qN [] 300 ⟨[(1, .ptr 100 0), (3, .d t4 false), (4, .d t2 (0 : Int))], [(100, bx 24 t23 a0)]⟩ aN ?_
        refine Run.bl 0 ?_
        obtain ⟨o19, h_o19, h⟩ := bnd_elim h
        refine Run.mono (f11_l2_ok a0 _ false (0 : Int) h_o19) ?_
        rintro _ _ ⟨rfl, rfl⟩
        show Run Pg 81 _ _ _
        refine Run.sq ?_
        refine qN [] 800 ⟨[(80, .d t4 (!o19))], []⟩ aN ?_
        refine Run.cd (!o19) (fun hb => ?_) (fun hb => ?_)
        · replace h := bif_t h hb
          refine qN [] 900 ⟨[(2, .d t2 (1 : Int))], []⟩ aN ?_
          refine Run.rt ?_
          obtain rfl := sI h
          exact qR [(.d t2 (1 : Int))]
        · replace h := bif_f h hb
          refine Run.sk ?_
          show Run Pg 81 _ _ _
          refine qN [] 1000 ⟨[(2, .d t2 (0 : Int))], []⟩ aN ?_
          refine Run.rt ?_
          obtain rfl := sI h
          exact qR [(.d t2 (0 : Int))]
    · refine qN [(8, .call (.d t4 y1)), (9, .b true), (12, .call (.d t4 y2)), (14, .b false)] 200 ⟨[(1, .ptr 100 0), (3, .d t4 false)], [(100, bx 24 t23 a0)]⟩ (aC (c28 h_y1) (aC hb1 (aC (c29 h_y2) (aC hb3 aN)))) ?_
      refine Run.sq ?_
      refine qN [] 300 ⟨[(1, .ptr 100 0), (3, .d t4 false), (4, .d t2 (0 : Int))], [(100, bx 24 t23 a0)]⟩ aN ?_
      refine Run.bl 0 ?_
      obtain ⟨o25, h_o25, h⟩ := bnd_elim h
      refine Run.mono (f11_l3_ok a0 _ false (0 : Int) h_o25) ?_
      rintro _ _ ⟨rfl, rfl⟩
      show Run Pg 81 _ _ _
      refine Run.sq ?_
      refine qN [] 800 ⟨[(80, .d t4 (!o25))], []⟩ aN ?_
      refine Run.cd (!o25) (fun hb => ?_) (fun hb => ?_)
      · replace h := bif_t h hb
        refine qN [] 900 ⟨[(2, .d t2 (1 : Int))], []⟩ aN ?_
        refine Run.rt ?_
        obtain rfl := sI h
        exact qR [(.d t2 (1 : Int))]
      · replace h := bif_f h hb
        refine Run.sk ?_
        show Run Pg 81 _ _ _
        refine qN [] 1000 ⟨[(2, .d t2 (0 : Int))], []⟩ aN ?_
        refine Run.rt ?_
        obtain rfl := sI h
        exact qR [(.d t2 (0 : Int))]
  · refine qN [(8, .call (.d t4 y1)), (9, .b false)] 200 ⟨[(1, .ptr 100 0), (3, .d t4 false)], [(100, bx 24 t23 a0)]⟩ (aC (c28 h_y1) (aC hb1 aN)) ?_
    refine Run.sq ?_
    refine qN [] 300 ⟨[(1, .ptr 100 0), (3, .d t4 false), (4, .d t2 (0 : Int))], [(100, bx 24 t23 a0)]⟩ aN ?_
    refine Run.bl 0 ?_
    obtain ⟨o31, h_o31, h⟩ := bnd_elim h
    refine Run.mono (f11_l4_ok a0 _ false (0 : Int) h_o31) ?_
    rintro _ _ ⟨rfl, rfl⟩
    show Run Pg 81 _ _ _
    refine Run.sq ?_
    refine qN [] 800 ⟨[(80, .d t4 (!o31))], []⟩ aN ?_
    refine Run.cd (!o31) (fun hb => ?_) (fun hb => ?_)
    · replace h := bif_t h hb
      refine qN [] 900 ⟨[(2, .d t2 (1 : Int))], []⟩ aN ?_
      refine Run.rt ?_
      obtain rfl := sI h
      exact qR [(.d t2 (1 : Int))]
    · replace h := bif_f h hb
      refine Run.sk ?_
      show Run Pg 81 _ _ _
      refine qN [] 1000 ⟨[(2, .d t2 (0 : Int))], []⟩ aN ?_
      refine Run.rt ?_
      obtain rfl := sI h
      exact qR [(.d t2 (0 : Int))]

/-! ## f15 -/

noncomputable def c_15 : Code := body0 Go.Proofs.Tryz.f15

def fin15 (r : Bool) : Ex → St → Prop := endK X0 [.tmp 2] [4] (.d t4 r)

def F15 (a0 : Int × Int × Int × Int × Int × Int × (List (Int × Int × Int × Int × Int)) × Int) : Option (Bool) :=
 (bif (decide ((ofN (List.length a0.2.2.2.2.2.2.1)) ≤ (4 : Int))) then
 (F11 a0).bind fun y1 =>
 some (y1 == (0 : Int))
 else
 some false)

theorem c15 {a0 : Int × Int × Int × Int × Int × Int × (List (Int × Int × Int × Int × Int)) × Int} {r : Bool} (h : F15 a0 = some r) : CallPure Pg 15 [(.d t23 a0)] (.d t4 r) := by
  refine qC c_15 12 [.tmp 2] [4] Go.Proofs.Tryz.func15 ?_
  show Run Pg 12 c_15 ⟨[(0, .d t23 a0)], []⟩ (fin15 r)
  unfold F15 at h
  refine qN [] 100 ⟨[(1, .ptr 100 0)], [(100, bx 24 t23 a0)]⟩ aN ?_
  rcases bif_elim h with ⟨hb0, h⟩ | ⟨hb0, h⟩
  · obtain ⟨y1, h_y1, h⟩ := bnd_elim h
    refine qN [(4, .b true), (6, .call (.d t2 y1))] 200 ⟨[(2, .d t4 (y1 == (0 : Int)))], []⟩ (aC hb0 (aC (c11 h_y1) aN)) ?_
    refine Run.rt ?_
    obtain rfl := sI h
    exact qR [(.d t4 (y1 == (0 : Int)))]
  · refine qN [(4, .b false)] 200 ⟨[(2, .d t4 false)], []⟩ (aC hb0 aN) ?_
    refine Run.rt ?_
    obtain rfl := sI h
    exact qR [(.d t4 false)]

/-! ## f30 -/

noncomputable def c_30 : Code := body0 Go.Proofs.Tryz.f30

def fin30 (r : Bool) : Ex → St → Prop := endK X0 [.tmp 2] [4] (.d t4 r)

def F30 (a0 : Int × Int) : Option (Bool) :=
 (bif (decide ((wrapI .i64 (0 - (40000000 : Int))) ≤ a0.1)) then
 (bif (decide (a0.1 ≤ (40000000 : Int))) then
 (bif (decide ((wrapI .i64 (0 - (40000000 : Int))) ≤ a0.2)) then
 some (decide (a0.2 ≤ (40000000 : Int)))
 else
 some false)
 else
 some false)
 else
 some false)

theorem c30 {a0 : Int × Int} {r : Bool} (h : F30 a0 = some r) : CallPure Pg 30 [(.d t31 a0)] (.d t4 r) := by
  refine qC c_30 28 [.tmp 2] [4] Go.Proofs.Tryz.func30 ?_
  show Run Pg 28 c_30 ⟨[(0, .d t31 a0)], []⟩ (fin30 r)
  unfold F30 at h
  refine qN [] 100 ⟨[(1, .ptr 100 0)], [(100, bx 32 t31 a0)]⟩ aN ?_
  refine qN [] 200 ⟨[(1, .ptr 100 0), (3, .d t2 (40000000 : Int))], [(100, bx 32 t31 a0)]⟩ aN ?_
  rcases bif_elim h with ⟨hb0, h⟩ | ⟨hb0, h⟩
  · rcases bif_elim h with ⟨hb1, h⟩ | ⟨hb1, h⟩
    · rcases bif_elim h with ⟨hb2, h⟩ | ⟨hb2, h⟩
      · refine qN [(5, .b true), (11, .b true), (18, .b true)] 300 ⟨[(2, .d t4 (decide (a0.2 ≤ (40000000 : Int))))], []⟩ (aC hb0 (aC hb1 (aC hb2 aN))) ?_
        refine Run.rt ?_
        obtain rfl := sI h
        exact qR [(.d t4 (decide (a0.2 ≤ (40000000 : Int))))]
      · refine qN [(5, .b true), (11, .b true), (18, .b false)] 300 ⟨[(2, .d t4 false)], []⟩ (aC hb0 (aC hb1 (aC hb2 aN))) ?_
        refine Run.rt ?_
        obtain rfl := sI h
        exact qR [(.d t4 false)]
    · refine qN [(5, .b true), (11, .b false)] 300 ⟨[(2, .d t4 false)], []⟩ (aC hb0 (aC hb1 aN)) ?_
      refine Run.rt ?_
      obtain rfl := sI h
      exact qR [(.d t4 false)]
  · refine qN [(5, .b false)] 300 ⟨[(2, .d t4 false)], []⟩ (aC hb0 aN) ?_
    refine Run.rt ?_
    obtain rfl := sI h
    exact qR [(.d t4 false)]

/-! ## f12 -/

noncomputable def c_12 : Code := body0 Go.Proofs.Tryz.f12

def fin12 (r : Bool) : Ex → St → Prop := endK X0 [.tmp 6] [4] (.d t4 r)

def F12 (a0 : Int × Int × Int × Int × Int × Int × (List (Int × Int × Int × Int × Int)) × Int) (a1 : (Int × Int) × (Int × Int)) (a2 : Int) : Option (Bool) :=
 (F15 a0).bind fun y1 =>
 (bif y1 then
 (F30 a1.1).bind fun y2 =>
 (bif y2 then
 (F30 a1.2).bind fun y3 =>
 (bif y3 then
 some (decide (a2 ≤ (40000000 : Int)))
 else
 some false)
 else
 some false)
 else
 some false)

theorem c12 {a0 : Int × Int × Int × Int × Int × Int × (List (Int × Int × Int × Int × Int)) × Int} {a1 : (Int × Int) × (Int × Int)} {a2 : Int} {r : Bool} (h : F12 a0 a1 a2 = some r) : CallPure Pg 12 [(.d t23 a0), (.d t33 a1), (.d t2 a2)] (.d t4 r) := by
  refine qC c_12 23 [.tmp 6] [4] Go.Proofs.Tryz.func12 ?_
  show Run Pg 23 c_12 ⟨[(0, .d t23 a0), (1, .d t33 a1), (2, .d t2 a2)], []⟩ (fin12 r)
  unfold F12 at h
  refine qN [] 100 ⟨[(2, .d t2 a2), (3, .ptr 100 0), (4, .ptr 101 0)], [(100, bx 24 t23 a0), (101, bx 33 t33 a1)]⟩ aN ?_
  obtain ⟨y1, h_y1, h⟩ := bnd_elim h
  rcases bif_elim h with ⟨hb1, h⟩ | ⟨hb1, h⟩
  · obtain ⟨y2, h_y2, h⟩ := bnd_elim h
    rcases bif_elim h with ⟨hb4, h⟩ | ⟨hb4, h⟩
    · obtain ⟨y3, h_y3, h⟩ := bnd_elim h
      rcases bif_elim h with ⟨hb7, h⟩ | ⟨hb7, h⟩
      · refine qN [(1, .call (.d t4 y1)), (2, .b true), (5, .call (.d t4 y2)), (7, .b true), (10, .call (.d t4 y3)), (12, .b true)] 200 ⟨[(6, .d t4 (decide (a2 ≤ (40000000 : Int))))], []⟩ (aC (c15 h_y1) (aC hb1 (aC (show (0 ≤ (0 : Int)) from (by decide)) (aC (c30 h_y2) (aC hb4 (aC (show (0 ≤ (1 : Int)) from (by decide)) (aC (c30 h_y3) (aC hb7 aN)))))))) ?_
        refine Run.rt ?_
        obtain rfl := sI h
        exact qR [(.d t4 (decide (a2 ≤ (40000000 : Int))))]
      · refine qN [(1, .call (.d t4 y1)), (2, .b true), (5, .call (.d t4 y2)), (7, .b true), (10, .call (.d t4 y3)), (12, .b false)] 200 ⟨[(6, .d t4 false)], []⟩ (aC (c15 h_y1) (aC hb1 (aC (show (0 ≤ (0 : Int)) from (by decide)) (aC (c30 h_y2) (aC hb4 (aC (show (0 ≤ (1 : Int)) from (by decide)) (aC (c30 h_y3) (aC hb7 aN)))))))) ?_
        refine Run.rt ?_
        obtain rfl := sI h
        exact qR [(.d t4 false)]
    · refine qN [(1, .call (.d t4 y1)), (2, .b true), (5, .call (.d t4 y2)), (7, .b false)] 200 ⟨[(6, .d t4 false)], []⟩ (aC (c15 h_y1) (aC hb1 (aC (show (0 ≤ (0 : Int)) from (by decide)) (aC (c30 h_y2) (aC hb4 aN))))) ?_
      refine Run.rt ?_
      obtain rfl := sI h
      exact qR [(.d t4 false)]
  · refine qN [(1, .call (.d t4 y1)), (2, .b false)] 200 ⟨[(6, .d t4 false)], []⟩ (aC (c15 h_y1) (aC hb1 aN)) ?_
    refine Run.rt ?_
    obtain rfl := sI h
    exact qR [(.d t4 false)]


end Go.Sw
