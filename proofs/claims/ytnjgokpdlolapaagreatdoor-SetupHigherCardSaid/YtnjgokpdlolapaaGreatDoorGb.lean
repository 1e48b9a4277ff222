/- Each function of the code computes the Lean function of the same number wherever that has a value; no other conditions. -/
import Derived.Test.YtnjgokpdlolapaaGreatDoorGa
namespace Go.Sw
open Go Go.Sw
set_option linter.unusedSimpArgs false
set_option linter.unusedVariables false

/-! ## f31 -/

noncomputable def c_31 : Code := body0 Go.Proofs.Tryz.f31

def fin31 (r : Bool) : Ex → St → Prop := endK X0 [.tmp 8] [4] (.d t4 r)

def f31_l0_post (x11 : List (RatL × RatL)) (x12 : Int) (x14 : RatL) (x15 : RatL × RatL) (x16 : RatL × RatL) : ((Unit) ⊕ (Bool)) → Ex → St → Prop
 | .inl o, x, s => x = .out 0 ∧ s = ⟨[], []⟩
 | .inr o, x, s => x = .ret ∧ fin31  o x s

def f31_l0_b (x11 : List (RatL × RatL)) (x12 : Int) (x14 : RatL) (x15 : RatL × RatL) (x16 : RatL × RatL) (again : Int → Option ((Unit) ⊕ (Bool))) : Int → Option ((Unit) ⊕ (Bool))
 | x13 =>
 (bif (decide (x13 < x12)) then
 gd (0 ≤ x13) <|
 gd (x13 < ((List.length x11 : Nat) : Int)) <|
 gd (0 ≤ (Int.tmod (wrapI .i64 (x13 + (1 : Int))) (4 : Int))) <|
 gd ((Int.tmod (wrapI .i64 (x13 + (1 : Int))) (4 : Int)) < ((List.length x11 : Nat) : Int)) <|
 (F46 x15 x16 (List.getD x11 (toN x13) (((false, ([] : List Int)), (false, ([] : List Int))), ((false, ([] : List Int)), (false, ([] : List Int))))) (List.getD x11 (toN (Int.tmod (wrapI .i64 (x13 + (1 : Int))) (4 : Int))) (((false, ([] : List Int)), (false, ([] : List Int))), ((false, ([] : List Int)), (false, ([] : List Int)))))).bind fun y19 =>
 (F45 y19 x14).bind fun y20 =>
 (bif (decide (y20 < (0 : Int))) then
 some (.inr true)
 else
 again (wrapI .i64 (x13 + (1 : Int))))
 else
 some (.inl ()))

def f31_l0 (x11 : List (RatL × RatL)) (x12 : Int) (x14 : RatL) (x15 : RatL × RatL) (x16 : RatL × RatL) : Nat → Int → Option ((Unit) ⊕ (Bool)) := loopF (f31_l0_b x11 x12 x14 x15 x16)

theorem f31_l0_ok (x11 : List (RatL × RatL)) (x12 : Int) (x14 : RatL) (x15 : RatL × RatL) (x16 : RatL × RatL) (k : Nat) (x13 : Int) {out : ((Unit) ⊕ (Bool))} (h : f31_l0 x11 x12 x14 x15 x16 k x13 = some out) : Run Pg 82 (bk1 (sq2 (sq1 (sq2 (sq2 (sq2 (sq2 (sq2 (sq2 (sq2 c_31)))))))))) ⟨[(9, (.ptr 602 0)), (10, (.ptr 810 0)), (11, (.ptr 811 0)), (12, (.d t89 x11)), (61, (.d t89 x11)), (62, (.d t2 x12)), (63, (.d t2 x13))], [(602, (.box 70 (.vcons (.d t69 x14) .vnil))), (810, (.box 87 (.vcons (.d t86 x15) .vnil))), (811, (.box 87 (.vcons (.d t86 x16) .vnil)))]⟩ (f31_l0_post x11 x12 x14 x15 x16 out) := by
  refine Run.loopN (by kernel_rfl) (fun m s => ∃ x13, s = ⟨[(9, (.ptr 602 0)), (10, (.ptr 810 0)), (11, (.ptr 811 0)), (12, (.d t89 x11)), (61, (.d t89 x11)), (62, (.d t2 x12)), (63, (.d t2 x13))], [(602, (.box 70 (.vcons (.d t69 x14) .vnil))), (810, (.box 87 (.vcons (.d t86 x15) .vnil))), (811, (.box 87 (.vcons (.d t86 x16) .vnil)))]⟩ ∧ f31_l0 x11 x12 x14 x15 x16 m x13 = some out) ?_ k ⟨x13,  rfl, h⟩
  rintro m s ⟨x13,  rfl, h⟩
  cases m with
  | zero => cases h
  | succ m =>
  replace h : f31_l0_b x11 x12 x14 x15 x16 (f31_l0 x11 x12 x14 x15 x16 m) x13 = some out := h
  unfold f31_l0_b at h
  refine Run.rN hX [] 1100 [9, 10, 11, 12, 61, 62, 63, 64] [602, 810, 811] ⟨[(9, (.ptr 602 0)), (10, (.ptr 810 0)), (11, (.ptr 811 0)), (12, (.d t89 x11)), (61, (.d t89 x11)), (62, (.d t2 x12)), (63, (.d t2 x13)), (64, (.d t4 (decide (x13 < x12))))], [(602, (.box 70 (.vcons (.d t69 x14) .vnil))), (810, (.box 87 (.vcons (.d t86 x15) .vnil))), (811, (.box 87 (.vcons (.d t86 x16) .vnil)))]⟩ aN ?_
  refine Run.sq ?_
  refine Run.cd (decide (x13 < x12)) (fun hb => ?_) (fun hb => ?_)
  · replace h := bif_t h hb
    refine Run.sk ?_
    show Run Pg 82 _ _ _
    refine Run.sq ?_
    refine Run.bl 1 ?_
    obtain ⟨g_0, h⟩ := gd_elim h
    obtain ⟨g_1, h⟩ := gd_elim h
    refine Run.rN hX [] 1200 [9, 10, 11, 12, 13, 14, 61, 62, 63] [602, 810, 811, 1203] ⟨[(9, (.ptr 602 0)), (10, (.ptr 810 0)), (11, (.ptr 811 0)), (12, (.d t89 x11)), (13, (.d t2 x13)), (14, (.ptr 1203 0)), (61, (.d t89 x11)), (62, (.d t2 x12)), (63, (.d t2 x13))], [(602, (.box 70 (.vcons (.d t69 x14) .vnil))), (810, (.box 87 (.vcons (.d t86 x15) .vnil))), (811, (.box 87 (.vcons (.d t86 x16) .vnil))), (1203, (.box 87 (.vcons (.d t86 (List.getD x11 (toN x13) (((false, ([] : List Int)), (false, ([] : List Int))), ((false, ([] : List Int)), (false, ([] : List Int)))))) .vnil)))]⟩ (aC g_0 (aC g_1 aN)) ?_
    obtain ⟨g_1, h⟩ := gd_elim h
    obtain ⟨g_2, h⟩ := gd_elim h
    obtain ⟨y19, h_y19, h⟩ := bnd_elim h
    obtain ⟨y20, h_y20, h⟩ := bnd_elim h
    refine Run.rN hX [(9, .call (.d t69 y19)), (11, .call (.d t2 y20))] 1300 [9, 10, 11, 12, 61, 62, 63, 80] [602, 810, 811] ⟨[(9, (.ptr 602 0)), (10, (.ptr 810 0)), (11, (.ptr 811 0)), (12, (.d t89 x11)), (61, (.d t89 x11)), (62, (.d t2 x12)), (63, (.d t2 x13)), (80, (.d t4 (decide (y20 < (0 : Int)))))], [(602, (.box 70 (.vcons (.d t69 x14) .vnil))), (810, (.box 87 (.vcons (.d t86 x15) .vnil))), (811, (.box 87 (.vcons (.d t86 x16) .vnil)))]⟩ (aC (show ((4 : Int) ≠ 0) from (by decide)) (aC g_1 (aC g_2 (aC (c46 h_y19) (aC (c45 h_y20) aN))))) ?_
    refine Run.cd (decide (y20 < (0 : Int))) (fun hb => ?_) (fun hb => ?_)
    · replace h := bif_t h hb
      refine Run.rN hX [] 1400 [8] [] ⟨[(8, (.d t4 true))], []⟩ aN ?_
      refine Run.rt ?_
      obtain rfl := sI h
      exact ⟨rfl, [(.d t4 true)], by kernel_rfl, by kernel_rfl⟩
    · replace h := bif_f h hb
      refine Run.sk ?_
      show Run Pg 82 _ _ _
      refine Run.rE hX [] 1500 [9, 10, 11, 12, 61, 62, 63] [602, 810, 811] ⟨[(9, (.ptr 602 0)), (10, (.ptr 810 0)), (11, (.ptr 811 0)), (12, (.d t89 x11)), (61, (.d t89 x11)), (62, (.d t2 x12)), (63, (.d t2 (wrapI .i64 (x13 + (1 : Int)))))], [(602, (.box 70 (.vcons (.d t69 x14) .vnil))), (810, (.box 87 (.vcons (.d t86 x15) .vnil))), (811, (.box 87 (.vcons (.d t86 x16) .vnil)))]⟩ aN ?_
      exact ⟨m, Nat.lt_succ_self m, _, rfl, h⟩
  · replace h := bif_f h hb
    refine Run.kp (s' := ⟨[], []⟩) [] [] ?_
    refine Run.ex 0 ?_
    obtain rfl := sI h
    exact ⟨rfl, by kernel_rfl⟩

def F31 (a0 : Int × Int × Int × Int × Int) (a1 : Int × Int) (a2 : Int × Int) (a3 : Int) : Option (Bool) :=
 (bif (decide (a3 ≤ (0 : Int))) then
 some false
 else
 (F41 a0 a1).bind fun y1 =>
 (bif y1 then
 some true
 else
 (F41 a0 a2).bind fun y2 =>
 (bif y2 then
 some true
 else
 (F42 a3).bind fun y3 =>
 (F43 y3 y3).bind fun y4 =>
 (F44 a1.1 a1.2).bind fun y5 =>
 (F44 a2.1 a2.2).bind fun y6 =>
 (F44 a0.1 a0.2.1).bind fun y7 =>
 (F44 a0.2.2.1 a0.2.1).bind fun y8 =>
 (F44 a0.2.2.1 a0.2.2.2.1).bind fun y9 =>
 (F44 a0.1 a0.2.2.2.1).bind fun y10 =>
 ((f31_l0 ([y7, y8, y9, y10] : List (RatL × RatL)) (ofN (List.length ([y7, y8, y9, y10] : List (RatL × RatL)))) y4 y5 y6 (2 + List.length ([y7, y8, y9, y10] : List (RatL × RatL))) (0 : Int)).bind fun o21 => match o21 with
 | .inl o22 =>
 some false
 | .inr o23 =>
 some o23))))

theorem c31 {a0 : Int × Int × Int × Int × Int} {a1 : Int × Int} {a2 : Int × Int} {a3 : Int} {r : Bool} (h : F31 a0 a1 a2 a3 = some r) : CallPure Pg 31 [(.d t56 a0), (.d t31 a1), (.d t31 a2), (.d t2 a3)] (.d t4 r) := by
  refine callPureN hX c_31 82 [.tmp 8] [4] Go.Proofs.Tryz.func31 (by kernel_rfl) (by kernel_rfl) (by kernel_rfl) (Nat.le_of_ble_eq_true rfl) rfl rfl ?_
  show Run Pg 82 c_31 ⟨[(0, (.d t56 a0)), (1, (.d t31 a1)), (2, (.d t31 a2)), (3, (.d t2 a3))], []⟩ (fin31 r)
  unfold F31 at h
  refine Run.rN hX [] 100 [3, 4, 5, 6] [100, 101, 102] ⟨[(3, (.d t2 a3)), (4, (.ptr 100 0)), (5, (.ptr 101 0)), (6, (.ptr 102 0))], [(100, (.box 57 (.vcons (.d t56 a0) .vnil))), (101, (.box 32 (.vcons (.d t31 a1) .vnil))), (102, (.box 32 (.vcons (.d t31 a2) .vnil)))]⟩ aN ?_
  refine Run.sq ?_
  refine Run.rN hX [] 200 [3, 4, 5, 6, 16] [100, 101, 102] ⟨[(3, (.d t2 a3)), (4, (.ptr 100 0)), (5, (.ptr 101 0)), (6, (.ptr 102 0)), (16, (.d t4 (decide (a3 ≤ (0 : Int)))))], [(100, (.box 57 (.vcons (.d t56 a0) .vnil))), (101, (.box 32 (.vcons (.d t31 a1) .vnil))), (102, (.box 32 (.vcons (.d t31 a2) .vnil)))]⟩ aN ?_
  refine Run.cd (decide (a3 ≤ (0 : Int))) (fun hb => ?_) (fun hb => ?_)
  · replace h := bif_t h hb
    refine Run.rN hX [] 300 [8] [] ⟨[(8, (.d t4 false))], []⟩ aN ?_
    refine Run.rt ?_
    obtain rfl := sI h
    exact ⟨[(.d t4 false)], by kernel_rfl, by kernel_rfl⟩
  · replace h := bif_f h hb
    refine Run.sk ?_
    show Run Pg 82 _ _ _
    refine Run.sq ?_
    obtain ⟨y1, h_y1, h⟩ := bnd_elim h
    rcases bif_elim h with ⟨hb1, h⟩ | ⟨hb1, h⟩
    · refine Run.rN hX [(2, .call (.d t4 y1)), (3, .b true)] 400 [3, 4, 5, 6, 24] [100, 101, 102] ⟨[(3, (.d t2 a3)), (4, (.ptr 100 0)), (5, (.ptr 101 0)), (6, (.ptr 102 0)), (24, (.d t4 true))], [(100, (.box 57 (.vcons (.d t56 a0) .vnil))), (101, (.box 32 (.vcons (.d t31 a1) .vnil))), (102, (.box 32 (.vcons (.d t31 a2) .vnil)))]⟩ (aC (c41 h_y1) (aC hb1 aN)) ?_
      refine Run.cd true (fun hb => ?_) (fun hb => (by cases hb))
      refine Run.rN hX [] 500 [8] [] ⟨[(8, (.d t4 true))], []⟩ aN ?_
      refine Run.rt ?_
      obtain rfl := sI h
      exact ⟨[(.d t4 true)], by kernel_rfl, by kernel_rfl⟩
    · obtain ⟨y2, h_y2, h⟩ := bnd_elim h
      refine Run.rN hX [(2, .call (.d t4 y1)), (3, .b false), (6, .call (.d t4 y2))] 400 [3, 4, 5, 6, 24] [100, 101, 102] ⟨[(3, (.d t2 a3)), (4, (.ptr 100 0)), (5, (.ptr 101 0)), (6, (.ptr 102 0)), (24, (.d t4 y2))], [(100, (.box 57 (.vcons (.d t56 a0) .vnil))), (101, (.box 32 (.vcons (.d t31 a1) .vnil))), (102, (.box 32 (.vcons (.d t31 a2) .vnil)))]⟩ (aC (c41 h_y1) (aC hb1 (aC (c41 h_y2) aN))) ?_
      refine Run.cd y2 (fun hb => ?_) (fun hb => ?_)
      · replace h := bif_t h hb
        refine Run.rN hX [] 500 [8] [] ⟨[(8, (.d t4 true))], []⟩ aN ?_
        refine Run.rt ?_
        obtain rfl := sI h
        exact ⟨[(.d t4 true)], by kernel_rfl, by kernel_rfl⟩
      · replace h := bif_f h hb
        refine Run.sk ?_
        show Run Pg 82 _ _ _
        obtain ⟨y3, h_y3, h⟩ := bnd_elim h
        refine Run.rN hX [(1, .call (.d t69 y3))] 600 [4, 5, 6, 9] [100, 101, 102, 602] ⟨[(4, (.ptr 100 0)), (5, (.ptr 101 0)), (6, (.ptr 102 0)), (9, (.ptr 602 0))], [(100, (.box 57 (.vcons (.d t56 a0) .vnil))), (101, (.box 32 (.vcons (.d t31 a1) .vnil))), (102, (.box 32 (.vcons (.d t31 a2) .vnil))), (602, (.box 70 (.vcons (.d t69 y3) .vnil)))]⟩ (aC (c42 h_y3) aN) ?_
        obtain ⟨y4, h_y4, h⟩ := bnd_elim h
        refine Run.rN hX [(2, .call (.d t69 y4))] 700 [4, 5, 6, 9] [100, 101, 102, 602] ⟨[(4, (.ptr 100 0)), (5, (.ptr 101 0)), (6, (.ptr 102 0)), (9, (.ptr 602 0))], [(100, (.box 57 (.vcons (.d t56 a0) .vnil))), (101, (.box 32 (.vcons (.d t31 a1) .vnil))), (102, (.box 32 (.vcons (.d t31 a2) .vnil))), (602, (.box 70 (.vcons (.d t69 y4) .vnil)))]⟩ (aC (c43 h_y4) aN) ?_
        obtain ⟨y5, h_y5, h⟩ := bnd_elim h
        obtain ⟨y6, h_y6, h⟩ := bnd_elim h
        refine Run.rN hX [(4, .call (.d t86 y5)), (9, .call (.d t86 y6))] 800 [4, 9, 10, 11] [100, 602, 810, 811] ⟨[(4, (.ptr 100 0)), (9, (.ptr 602 0)), (10, (.ptr 810 0)), (11, (.ptr 811 0))], [(100, (.box 57 (.vcons (.d t56 a0) .vnil))), (602, (.box 70 (.vcons (.d t69 y4) .vnil))), (810, (.box 87 (.vcons (.d t86 y5) .vnil))), (811, (.box 87 (.vcons (.d t86 y6) .vnil)))]⟩ (aC (c44 h_y5) (aC (c44 h_y6) aN)) ?_
        obtain ⟨y7, h_y7, h⟩ := bnd_elim h
        obtain ⟨y8, h_y8, h⟩ := bnd_elim h
        obtain ⟨y9, h_y9, h⟩ := bnd_elim h
        obtain ⟨y10, h_y10, h⟩ := bnd_elim h
        refine Run.rN hX [(4, .call (.d t86 y7)), (9, .call (.d t86 y8)), (14, .call (.d t86 y9)), (19, .call (.d t86 y10))] 900 [9, 10, 11, 12] [602, 810, 811] ⟨[(9, (.ptr 602 0)), (10, (.ptr 810 0)), (11, (.ptr 811 0)), (12, (.d t89 ([y7, y8, y9, y10] : List (RatL × RatL))))], [(602, (.box 70 (.vcons (.d t69 y4) .vnil))), (810, (.box 87 (.vcons (.d t86 y5) .vnil))), (811, (.box 87 (.vcons (.d t86 y6) .vnil)))]⟩ (aC (c44 h_y7) (aC (c44 h_y8) (aC (c44 h_y9) (aC (c44 h_y10) aN)))) ?_
        refine Run.sq ?_
        refine Run.rN hX [] 1000 [9, 10, 11, 12, 61, 62, 63] [602, 810, 811] ⟨[(9, (.ptr 602 0)), (10, (.ptr 810 0)), (11, (.ptr 811 0)), (12, (.d t89 ([y7, y8, y9, y10] : List (RatL × RatL)))), (61, (.d t89 ([y7, y8, y9, y10] : List (RatL × RatL)))), (62, (.d t2 (ofN (List.length ([y7, y8, y9, y10] : List (RatL × RatL)))))), (63, (.d t2 (0 : Int)))], [(602, (.box 70 (.vcons (.d t69 y4) .vnil))), (810, (.box 87 (.vcons (.d t86 y5) .vnil))), (811, (.box 87 (.vcons (.d t86 y6) .vnil)))]⟩ aN ?_
        refine Run.bl 0 ?_
        obtain ⟨o21, h_o21, h⟩ := bnd_elim h
        refine Run.mono (f31_l0_ok ([y7, y8, y9, y10] : List (RatL × RatL)) (ofN (List.length ([y7, y8, y9, y10] : List (RatL × RatL)))) y4 y5 y6 _ (0 : Int) h_o21) ?_
        rcases o21 with o22 | o23
        · rintro _ _ ⟨rfl, rfl⟩
          show Run Pg 82 _ _ _
          refine Run.rN hX [] 1600 [8] [] ⟨[(8, (.d t4 false))], []⟩ aN ?_
          refine Run.rt ?_
          obtain rfl := sI h
          exact ⟨[(.d t4 false)], by kernel_rfl, by kernel_rfl⟩
        · rintro _ s ⟨rfl, hr⟩
          obtain rfl := sI h
          exact hr

/-! ## f13 -/

noncomputable def c_13 : Code := body0 Go.Proofs.Tryz.f13

def fin13 (r : Int × Bool) : Ex → St → Prop := endK X0 [.tmp 8, .tmp 9] [2, 4] (.tup (.vcons (.d t2 r.1) (.vcons (.d t4 r.2) .vnil)))

def f13_c1_post (x22 : Int) (x23 : Int) (x24 : Bool) (x25 : List (Int × Int × Int × Int × Int)) (x26 : Int) (x27 : Int) (x28 : Bool) (x29 : Int × Int) (x30 : Int × Int) (x31 : Int × Int × Int × Int × Int) : (Int × Bool) → Ex → St → Prop
 | o, x, s => x = .nrm ∧ s = ⟨[(3, (.d t2 x22)), (5, (.ptr 101 0)), (6, (.ptr 102 0)), (10, (.d t2 o.1)), (11, (.d t4 o.2)), (15, (.d t22 x25)), (16, (.d t2 x26)), (17, (.d t2 x27))], [(101, (.box 32 (.vcons (.d t31 x29) .vnil))), (102, (.box 32 (.vcons (.d t31 x30) .vnil)))]⟩

def f13_c1 (x23 : Int) (x24 : Bool) (x28 : Bool) (x31 : Int × Int × Int × Int × Int) : Option (Int × Bool) :=
 (bif x28 then
 some (x31.2.2.2.2, true)
 else
 some (x23, x24))

theorem f13_c1_ok (x22 : Int) (x23 : Int) (x24 : Bool) (x25 : List (Int × Int × Int × Int × Int)) (x26 : Int) (x27 : Int) (x28 : Bool) (x29 : Int × Int) (x30 : Int × Int) (x31 : Int × Int × Int × Int × Int) {out : (Int × Bool)} (h : f13_c1 x23 x24 x28 x31 = some out) : Run Pg 41 (sq2 (sq2 (bk1 (sq1 (sq2 (sq2 (lp1 (bk1 (sq2 (sq1 (sq2 (sq2 c_13)))))))))))) ⟨[(3, (.d t2 x22)), (5, (.ptr 101 0)), (6, (.ptr 102 0)), (10, (.d t2 x23)), (11, (.d t4 x24)), (13, (.ptr 502 0)), (15, (.d t22 x25)), (16, (.d t2 x26)), (17, (.d t2 x27)), (35, (.d t4 x28))], [(101, (.box 32 (.vcons (.d t31 x29) .vnil))), (102, (.box 32 (.vcons (.d t31 x30) .vnil))), (502, (.box 57 (.vcons (.d t56 x31) .vnil)))]⟩ (f13_c1_post x22 x23 x24 x25 x26 x27 x28 x29 x30 x31 out) := by
  unfold f13_c1 at h
  refine Run.cd x28 (fun hb => ?_) (fun hb => ?_)
  · replace h := bif_t h hb
    refine Run.rE hX [] 700 [3, 5, 6, 10, 11, 15, 16, 17] [101, 102] ⟨[(3, (.d t2 x22)), (5, (.ptr 101 0)), (6, (.ptr 102 0)), (10, (.d t2 x31.2.2.2.2)), (11, (.d t4 true)), (15, (.d t22 x25)), (16, (.d t2 x26)), (17, (.d t2 x27))], [(101, (.box 32 (.vcons (.d t31 x29) .vnil))), (102, (.box 32 (.vcons (.d t31 x30) .vnil)))]⟩ aN ?_
    obtain rfl := sI h
    exact ⟨rfl, by kernel_rfl⟩
  · replace h := bif_f h hb
    refine Run.kp (s' := ⟨[(3, (.d t2 x22)), (5, (.ptr 101 0)), (6, (.ptr 102 0)), (10, (.d t2 x23)), (11, (.d t4 x24)), (15, (.d t22 x25)), (16, (.d t2 x26)), (17, (.d t2 x27))], [(101, (.box 32 (.vcons (.d t31 x29) .vnil))), (102, (.box 32 (.vcons (.d t31 x30) .vnil)))]⟩) [3, 5, 6, 10, 11, 15, 16, 17] [101, 102] ?_
    refine Run.sk ?_
    obtain rfl := sI h
    exact ⟨rfl, by kernel_rfl⟩

def f13_l0_post (x1 : Int) (x4 : List (Int × Int × Int × Int × Int)) (x5 : Int) (x7 : Int × Int) (x8 : Int × Int) : (Int × Bool) → Ex → St → Prop
 | o, x, s => x = .out 0 ∧ s = ⟨[(10, (.d t2 o.1)), (11, (.d t4 o.2))], []⟩

def f13_l0_b (x1 : Int) (x4 : List (Int × Int × Int × Int × Int)) (x5 : Int) (x7 : Int × Int) (x8 : Int × Int) (again : Int × Bool × Int → Option (Int × Bool)) : Int × Bool × Int → Option (Int × Bool)
 | (x2, x3, x6) =>
 (bif (decide (x6 < x5)) then
 gd (0 ≤ x6) <|
 gd (x6 < ((List.length x4 : Nat) : Int)) <|
 (F31 (List.getD x4 (toN x6) ((0 : Int), (0 : Int), (0 : Int), (0 : Int), (0 : Int))) x7 x8 x1).bind fun y21 =>
 (bif y21 then
 (bif (!x3) then
 again ((List.getD x4 (toN x6) ((0 : Int), (0 : Int), (0 : Int), (0 : Int), (0 : Int))).2.2.2.2, true, (wrapI .i64 (x6 + (1 : Int))))
 else
 ((f13_c1 x2 x3 (decide (x2 < (List.getD x4 (toN x6) ((0 : Int), (0 : Int), (0 : Int), (0 : Int), (0 : Int))).2.2.2.2)) (List.getD x4 (toN x6) ((0 : Int), (0 : Int), (0 : Int), (0 : Int), (0 : Int)))).bind fun o32 =>
 again (o32.1, o32.2, (wrapI .i64 (x6 + (1 : Int))))))
 else
 again (x2, x3, (wrapI .i64 (x6 + (1 : Int)))))
 else
 some (x2, x3))

def f13_l0 (x1 : Int) (x4 : List (Int × Int × Int × Int × Int)) (x5 : Int) (x7 : Int × Int) (x8 : Int × Int) : Nat → Int × Bool × Int → Option (Int × Bool) := loopF (f13_l0_b x1 x4 x5 x7 x8)

theorem f13_l0_ok (x1 : Int) (x4 : List (Int × Int × Int × Int × Int)) (x5 : Int) (x7 : Int × Int) (x8 : Int × Int) (k : Nat) (x2 : Int) (x3 : Bool) (x6 : Int) {out : (Int × Bool)} (h : f13_l0 x1 x4 x5 x7 x8 k (x2, x3, x6) = some out) : Run Pg 41 (bk1 (sq2 (sq1 (sq2 (sq2 c_13))))) ⟨[(3, (.d t2 x1)), (5, (.ptr 101 0)), (6, (.ptr 102 0)), (10, (.d t2 x2)), (11, (.d t4 x3)), (15, (.d t22 x4)), (16, (.d t2 x5)), (17, (.d t2 x6))], [(101, (.box 32 (.vcons (.d t31 x7) .vnil))), (102, (.box 32 (.vcons (.d t31 x8) .vnil)))]⟩ (f13_l0_post x1 x4 x5 x7 x8 out) := by
  refine Run.loopN (by kernel_rfl) (fun m s => ∃ x2 x3 x6, s = ⟨[(3, (.d t2 x1)), (5, (.ptr 101 0)), (6, (.ptr 102 0)), (10, (.d t2 x2)), (11, (.d t4 x3)), (15, (.d t22 x4)), (16, (.d t2 x5)), (17, (.d t2 x6))], [(101, (.box 32 (.vcons (.d t31 x7) .vnil))), (102, (.box 32 (.vcons (.d t31 x8) .vnil)))]⟩ ∧ f13_l0 x1 x4 x5 x7 x8 m (x2, x3, x6) = some out) ?_ k ⟨x2, x3, x6,  rfl, h⟩
  rintro m s ⟨x2, x3, x6,  rfl, h⟩
  cases m with
  | zero => cases h
  | succ m =>
  replace h : f13_l0_b x1 x4 x5 x7 x8 (f13_l0 x1 x4 x5 x7 x8 m) (x2, x3, x6) = some out := h
  unfold f13_l0_b at h
  refine Run.rN hX [] 400 [3, 5, 6, 10, 11, 15, 16, 17, 18] [101, 102] ⟨[(3, (.d t2 x1)), (5, (.ptr 101 0)), (6, (.ptr 102 0)), (10, (.d t2 x2)), (11, (.d t4 x3)), (15, (.d t22 x4)), (16, (.d t2 x5)), (17, (.d t2 x6)), (18, (.d t4 (decide (x6 < x5))))], [(101, (.box 32 (.vcons (.d t31 x7) .vnil))), (102, (.box 32 (.vcons (.d t31 x8) .vnil)))]⟩ aN ?_
  refine Run.sq ?_
  refine Run.cd (decide (x6 < x5)) (fun hb => ?_) (fun hb => ?_)
  · replace h := bif_t h hb
    refine Run.sk ?_
    show Run Pg 41 _ _ _
    refine Run.sq ?_
    refine Run.bl 1 ?_
    obtain ⟨g_0, h⟩ := gd_elim h
    obtain ⟨g_1, h⟩ := gd_elim h
    refine Run.rN hX [] 500 [3, 5, 6, 10, 11, 13, 15, 16, 17] [101, 102, 502] ⟨[(3, (.d t2 x1)), (5, (.ptr 101 0)), (6, (.ptr 102 0)), (10, (.d t2 x2)), (11, (.d t4 x3)), (13, (.ptr 502 0)), (15, (.d t22 x4)), (16, (.d t2 x5)), (17, (.d t2 x6))], [(101, (.box 32 (.vcons (.d t31 x7) .vnil))), (102, (.box 32 (.vcons (.d t31 x8) .vnil))), (502, (.box 57 (.vcons (.d t56 (List.getD x4 (toN x6) ((0 : Int), (0 : Int), (0 : Int), (0 : Int), (0 : Int)))) .vnil)))]⟩ (aC g_0 (aC g_1 aN)) ?_
    obtain ⟨y21, h_y21, h⟩ := bnd_elim h
    rcases bif_elim h with ⟨hb1, h⟩ | ⟨hb1, h⟩
    · rcases bif_elim h with ⟨hb2, h⟩ | ⟨hb2, h⟩
      · refine Run.rN hX [(4, .call (.d t4 y21)), (5, .b true), (8, .b true)] 600 [3, 5, 6, 10, 11, 13, 15, 16, 17, 35] [101, 102, 502] ⟨[(3, (.d t2 x1)), (5, (.ptr 101 0)), (6, (.ptr 102 0)), (10, (.d t2 x2)), (11, (.d t4 x3)), (13, (.ptr 502 0)), (15, (.d t22 x4)), (16, (.d t2 x5)), (17, (.d t2 x6)), (35, (.d t4 true))], [(101, (.box 32 (.vcons (.d t31 x7) .vnil))), (102, (.box 32 (.vcons (.d t31 x8) .vnil))), (502, (.box 57 (.vcons (.d t56 (List.getD x4 (toN x6) ((0 : Int), (0 : Int), (0 : Int), (0 : Int), (0 : Int)))) .vnil)))]⟩ (aC (c31 h_y21) (aC hb1 (aC hb2 aN))) ?_
        refine Run.cd true (fun hb => ?_) (fun hb => (by cases hb))
        refine Run.rE hX [] 700 [3, 5, 6, 10, 11, 15, 16, 17] [101, 102] ⟨[(3, (.d t2 x1)), (5, (.ptr 101 0)), (6, (.ptr 102 0)), (10, (.d t2 (List.getD x4 (toN x6) ((0 : Int), (0 : Int), (0 : Int), (0 : Int), (0 : Int))).2.2.2.2)), (11, (.d t4 true)), (15, (.d t22 x4)), (16, (.d t2 x5)), (17, (.d t2 x6))], [(101, (.box 32 (.vcons (.d t31 x7) .vnil))), (102, (.box 32 (.vcons (.d t31 x8) .vnil)))]⟩ aN ?_
        show Run Pg 41 _ _ _
        refine Run.rE hX [] 800 [3, 5, 6, 10, 11, 15, 16, 17] [101, 102] ⟨[(3, (.d t2 x1)), (5, (.ptr 101 0)), (6, (.ptr 102 0)), (10, (.d t2 (List.getD x4 (toN x6) ((0 : Int), (0 : Int), (0 : Int), (0 : Int), (0 : Int))).2.2.2.2)), (11, (.d t4 true)), (15, (.d t22 x4)), (16, (.d t2 x5)), (17, (.d t2 (wrapI .i64 (x6 + (1 : Int)))))], [(101, (.box 32 (.vcons (.d t31 x7) .vnil))), (102, (.box 32 (.vcons (.d t31 x8) .vnil)))]⟩ aN ?_
        exact ⟨m, Nat.lt_succ_self m, _, _, _, rfl, h⟩
      · refine Run.rN hX [(4, .call (.d t4 y21)), (5, .b true), (8, .b false)] 600 [3, 5, 6, 10, 11, 13, 15, 16, 17, 35] [101, 102, 502] ⟨[(3, (.d t2 x1)), (5, (.ptr 101 0)), (6, (.ptr 102 0)), (10, (.d t2 x2)), (11, (.d t4 x3)), (13, (.ptr 502 0)), (15, (.d t22 x4)), (16, (.d t2 x5)), (17, (.d t2 x6)), (35, (.d t4 (decide (x2 < (List.getD x4 (toN x6) ((0 : Int), (0 : Int), (0 : Int), (0 : Int), (0 : Int))).2.2.2.2))))], [(101, (.box 32 (.vcons (.d t31 x7) .vnil))), (102, (.box 32 (.vcons (.d t31 x8) .vnil))), (502, (.box 57 (.vcons (.d t56 (List.getD x4 (toN x6) ((0 : Int), (0 : Int), (0 : Int), (0 : Int), (0 : Int)))) .vnil)))]⟩ (aC (c31 h_y21) (aC hb1 (aC hb2 aN))) ?_
        obtain ⟨o32, h_o32, h⟩ := bnd_elim h
        refine Run.mono (f13_c1_ok x1 x2 x3 x4 x5 x6 (decide (x2 < (List.getD x4 (toN x6) ((0 : Int), (0 : Int), (0 : Int), (0 : Int), (0 : Int))).2.2.2.2)) x7 x8 (List.getD x4 (toN x6) ((0 : Int), (0 : Int), (0 : Int), (0 : Int), (0 : Int))) h_o32) ?_
        rintro _ _ ⟨rfl, rfl⟩
        show Run Pg 41 _ _ _
        refine Run.rE hX [] 800 [3, 5, 6, 10, 11, 15, 16, 17] [101, 102] ⟨[(3, (.d t2 x1)), (5, (.ptr 101 0)), (6, (.ptr 102 0)), (10, (.d t2 o32.1)), (11, (.d t4 o32.2)), (15, (.d t22 x4)), (16, (.d t2 x5)), (17, (.d t2 (wrapI .i64 (x6 + (1 : Int)))))], [(101, (.box 32 (.vcons (.d t31 x7) .vnil))), (102, (.box 32 (.vcons (.d t31 x8) .vnil)))]⟩ aN ?_
        exact ⟨m, Nat.lt_succ_self m, _, _, _, rfl, h⟩
    · refine Run.rN hX [(4, .call (.d t4 y21)), (5, .b false)] 600 [3, 5, 6, 10, 11, 13, 15, 16, 17, 35] [101, 102, 502] ⟨[(3, (.d t2 x1)), (5, (.ptr 101 0)), (6, (.ptr 102 0)), (10, (.d t2 x2)), (11, (.d t4 x3)), (13, (.ptr 502 0)), (15, (.d t22 x4)), (16, (.d t2 x5)), (17, (.d t2 x6)), (35, (.d t4 false))], [(101, (.box 32 (.vcons (.d t31 x7) .vnil))), (102, (.box 32 (.vcons (.d t31 x8) .vnil))), (502, (.box 57 (.vcons (.d t56 (List.getD x4 (toN x6) ((0 : Int), (0 : Int), (0 : Int), (0 : Int), (0 : Int)))) .vnil)))]⟩ (aC (c31 h_y21) (aC hb1 aN)) ?_
      refine Run.cd false (fun hb => (by cases hb)) (fun hb => ?_)
      refine Run.sk ?_
      show Run Pg 41 _ _ _
      refine Run.rE hX [] 800 [3, 5, 6, 10, 11, 15, 16, 17] [101, 102] ⟨[(3, (.d t2 x1)), (5, (.ptr 101 0)), (6, (.ptr 102 0)), (10, (.d t2 x2)), (11, (.d t4 x3)), (15, (.d t22 x4)), (16, (.d t2 x5)), (17, (.d t2 (wrapI .i64 (x6 + (1 : Int)))))], [(101, (.box 32 (.vcons (.d t31 x7) .vnil))), (102, (.box 32 (.vcons (.d t31 x8) .vnil)))]⟩ aN ?_
      exact ⟨m, Nat.lt_succ_self m, _, _, _, rfl, h⟩
  · replace h := bif_f h hb
    refine Run.kp (s' := ⟨[(10, (.d t2 x2)), (11, (.d t4 x3))], []⟩) [10, 11] [] ?_
    refine Run.ex 0 ?_
    obtain rfl := sI h
    exact ⟨rfl, by kernel_rfl⟩

def F13 (a0 : Int × Int × Int × Int × Int × Int × (List (Int × Int × Int × Int × Int)) × Int) (a1 : Int × Int) (a2 : Int × Int) (a3 : Int) : Option (Int × Bool) :=
 ((f13_l0 a3 a0.2.2.2.2.2.2.1 (ofN (List.length a0.2.2.2.2.2.2.1)) a1 a2 (2 + List.length a0.2.2.2.2.2.2.1) ((0 : Int), false, (0 : Int))).bind fun o33 =>
 some (o33.1, o33.2))

theorem c13 {a0 : Int × Int × Int × Int × Int × Int × (List (Int × Int × Int × Int × Int)) × Int} {a1 : Int × Int} {a2 : Int × Int} {a3 : Int} {r : Int × Bool} (h : F13 a0 a1 a2 a3 = some r) : CallPure Pg 13 [(.d t23 a0), (.d t31 a1), (.d t31 a2), (.d t2 a3)] (.tup (.vcons (.d t2 r.1) (.vcons (.d t4 r.2) .vnil))) := by
  refine callPureN hX c_13 41 [.tmp 8, .tmp 9] [2, 4] Go.Proofs.Tryz.func13 (by kernel_rfl) (by kernel_rfl) (by kernel_rfl) (Nat.le_of_ble_eq_true rfl) rfl rfl ?_
  show Run Pg 41 c_13 ⟨[(0, (.d t23 a0)), (1, (.d t31 a1)), (2, (.d t31 a2)), (3, (.d t2 a3))], []⟩ (fin13 r)
  unfold F13 at h
  refine Run.rN hX [] 100 [3, 4, 5, 6] [100, 101, 102] ⟨[(3, (.d t2 a3)), (4, (.ptr 100 0)), (5, (.ptr 101 0)), (6, (.ptr 102 0))], [(100, (.box 24 (.vcons (.d t23 a0) .vnil))), (101, (.box 32 (.vcons (.d t31 a1) .vnil))), (102, (.box 32 (.vcons (.d t31 a2) .vnil)))]⟩ aN ?_
  refine Run.rN hX [] 200 [3, 4, 5, 6, 10, 11] [100, 101, 102] ⟨[(3, (.d t2 a3)), (4, (.ptr 100 0)), (5, (.ptr 101 0)), (6, (.ptr 102 0)), (10, (.d t2 (0 : Int))), (11, (.d t4 false))], [(100, (.box 24 (.vcons (.d t23 a0) .vnil))), (101, (.box 32 (.vcons (.d t31 a1) .vnil))), (102, (.box 32 (.vcons (.d t31 a2) .vnil)))]⟩ aN ?_
  refine Run.sq ?_
  refine Run.rN hX [] 300 [3, 5, 6, 10, 11, 15, 16, 17] [101, 102] ⟨[(3, (.d t2 a3)), (5, (.ptr 101 0)), (6, (.ptr 102 0)), (10, (.d t2 (0 : Int))), (11, (.d t4 false)), (15, (.d t22 a0.2.2.2.2.2.2.1)), (16, (.d t2 (ofN (List.length a0.2.2.2.2.2.2.1)))), (17, (.d t2 (0 : Int)))], [(101, (.box 32 (.vcons (.d t31 a1) .vnil))), (102, (.box 32 (.vcons (.d t31 a2) .vnil)))]⟩ aN ?_
  refine Run.bl 0 ?_
  obtain ⟨o33, h_o33, h⟩ := bnd_elim h
  refine Run.mono (f13_l0_ok a3 a0.2.2.2.2.2.2.1 (ofN (List.length a0.2.2.2.2.2.2.1)) a1 a2 _ (0 : Int) false (0 : Int) h_o33) ?_
  rintro _ _ ⟨rfl, rfl⟩
  show Run Pg 41 _ _ _
  refine Run.rN hX [] 900 [8, 9] [] ⟨[(8, (.d t2 o33.1)), (9, (.d t4 o33.2))], []⟩ aN ?_
  refine Run.rt ?_
  obtain rfl := sI h
  exact ⟨[(.d t2 o33.1), (.d t4 o33.2)], by kernel_rfl, by kernel_rfl⟩

/-! ## f18 -/

noncomputable def c_18 : Code := body0 Go.Proofs.Tryz.f18

def fin18 (r : (Int × Int × Int × Int × Int × Int × (List (Int × Int × Int × Int × Int)) × Int)) : Ex → St → Prop := endK X0 [.cell 0 24] [24] (.d t23 r)

def F18  : Option ((Int × Int × Int × Int × Int × Int × (List (Int × Int × Int × Int × Int)) × Int)) :=
 some ((0 : Int), (0 : Int), (100000 : Int), (60000 : Int), (20000 : Int), (5000 : Int), ([((0 : Int), (0 : Int), (10000 : Int), (10000 : Int), (8500 : Int))] : List (Int × Int × Int × Int × Int)), (15000 : Int))

theorem c18  {r : (Int × Int × Int × Int × Int × Int × (List (Int × Int × Int × Int × Int)) × Int)} (h : F18  = some r) : CallPure Pg 18 [] (.d t23 r) := by
  refine callPureN hX c_18 4 [.cell 0 24] [24] Go.Proofs.Tryz.func18 (by kernel_rfl) (by kernel_rfl) (by kernel_rfl) (Nat.le_of_ble_eq_true rfl) rfl rfl ?_
  show Run Pg 4 c_18 ⟨[], []⟩ (fin18 r)
  unfold F18 at h
  refine Run.rN hX [] 100 [0] [100] ⟨[(0, (.ptr 100 0))], [(100, (.box 24 (.vcons (.d t23 ((0 : Int), (0 : Int), (0 : Int), (0 : Int), (0 : Int), (0 : Int), ([] : List (Int × Int × Int × Int × Int)), (0 : Int))) .vnil)))]⟩ aN ?_
  refine Run.rN hX [] 200 [0] [100] ⟨[(0, (.ptr 100 0))], [(100, (.box 24 (.vcons (.d t23 ((0 : Int), (0 : Int), (100000 : Int), (60000 : Int), (20000 : Int), (5000 : Int), ([((0 : Int), (0 : Int), (10000 : Int), (10000 : Int), (8500 : Int))] : List (Int × Int × Int × Int × Int)), (15000 : Int))) .vnil)))]⟩ aN ?_
  refine Run.rt ?_
  obtain rfl := sI h
  exact ⟨[(.d t23 ((0 : Int), (0 : Int), (100000 : Int), (60000 : Int), (20000 : Int), (5000 : Int), ([((0 : Int), (0 : Int), (10000 : Int), (10000 : Int), (8500 : Int))] : List (Int × Int × Int × Int × Int)), (15000 : Int)))], by kernel_rfl, by kernel_rfl⟩

/-! ## f20 -/

noncomputable def c_20 : Code := body0 Go.Proofs.Tryz.f20

def fin20 (r : Bool) : Ex → St → Prop := endK X0 [.tmp 4] [4] (.d t4 r)

def f20_l0_post (x2 : Int × Int × Int × Int × Int × Int × (List (Int × Int × Int × Int × Int)) × Int) (x3 : Int × Int × Int × Int × Int × Int × (List (Int × Int × Int × Int × Int)) × Int) : ((Unit) ⊕ (Bool)) → Ex → St → Prop
 | .inl o, x, s => x = .out 0 ∧ s = ⟨[], []⟩
 | .inr o, x, s => x = .ret ∧ fin20  o x s

def f20_l0_b (x2 : Int × Int × Int × Int × Int × Int × (List (Int × Int × Int × Int × Int)) × Int) (x3 : Int × Int × Int × Int × Int × Int × (List (Int × Int × Int × Int × Int)) × Int) (again : Int → Option ((Unit) ⊕ (Bool))) : Int → Option ((Unit) ⊕ (Bool))
 | x1 =>
 (bif (decide (x1 < (ofN (List.length x2.2.2.2.2.2.2.1)))) then
 gd (0 ≤ x1) <|
 gd (x1 < ((List.length x2.2.2.2.2.2.2.1 : Nat) : Int)) <|
 gd (0 ≤ x1) <|
 gd (x1 < ((List.length x3.2.2.2.2.2.2.1 : Nat) : Int)) <|
 (bif (!(eqD t56 (List.getD x2.2.2.2.2.2.2.1 (toN x1) ((0 : Int), (0 : Int), (0 : Int), (0 : Int), (0 : Int))) (List.getD x3.2.2.2.2.2.2.1 (toN x1) ((0 : Int), (0 : Int), (0 : Int), (0 : Int), (0 : Int))))) then
 some (.inr false)
 else
 again (wrapI .i64 (x1 + (1 : Int))))
 else
 some (.inl ()))

def f20_l0 (x2 : Int × Int × Int × Int × Int × Int × (List (Int × Int × Int × Int × Int)) × Int) (x3 : Int × Int × Int × Int × Int × Int × (List (Int × Int × Int × Int × Int)) × Int) : Nat → Int → Option ((Unit) ⊕ (Bool)) := loopF (f20_l0_b x2 x3)

theorem f20_l0_ok (x2 : Int × Int × Int × Int × Int × Int × (List (Int × Int × Int × Int × Int)) × Int) (x3 : Int × Int × Int × Int × Int × Int × (List (Int × Int × Int × Int × Int)) × Int) (k : Nat) (x1 : Int) {out : ((Unit) ⊕ (Bool))} (h : f20_l0 x2 x3 k x1 = some out) : Run Pg 80 (bk1 (sq2 (sq1 (sq2 (sq2 c_20))))) ⟨[(2, (.ptr 100 0)), (3, (.ptr 101 0)), (5, (.d t2 x1))], [(100, (.box 24 (.vcons (.d t23 x2) .vnil))), (101, (.box 24 (.vcons (.d t23 x3) .vnil)))]⟩ (f20_l0_post x2 x3 out) := by
  refine Run.loopN (by kernel_rfl) (fun m s => ∃ x1, s = ⟨[(2, (.ptr 100 0)), (3, (.ptr 101 0)), (5, (.d t2 x1))], [(100, (.box 24 (.vcons (.d t23 x2) .vnil))), (101, (.box 24 (.vcons (.d t23 x3) .vnil)))]⟩ ∧ f20_l0 x2 x3 m x1 = some out) ?_ k ⟨x1,  rfl, h⟩
  rintro m s ⟨x1,  rfl, h⟩
  cases m with
  | zero => cases h
  | succ m =>
  replace h : f20_l0_b x2 x3 (f20_l0 x2 x3 m) x1 = some out := h
  unfold f20_l0_b at h
  refine Run.sq ?_
  refine Run.rN hX [] 500 [2, 3, 5, 66] [100, 101] ⟨[(2, (.ptr 100 0)), (3, (.ptr 101 0)), (5, (.d t2 x1)), (66, (.d t4 (decide (x1 < (ofN (List.length x2.2.2.2.2.2.2.1))))))], [(100, (.box 24 (.vcons (.d t23 x2) .vnil))), (101, (.box 24 (.vcons (.d t23 x3) .vnil)))]⟩ aN ?_
  refine Run.cd (decide (x1 < (ofN (List.length x2.2.2.2.2.2.2.1)))) (fun hb => ?_) (fun hb => ?_)
  · replace h := bif_t h hb
    refine Run.sk ?_
    show Run Pg 80 _ _ _
    refine Run.sq ?_
    refine Run.bl 1 ?_
    obtain ⟨g_0, h⟩ := gd_elim h
    obtain ⟨g_1, h⟩ := gd_elim h
    obtain ⟨g_2, h⟩ := gd_elim h
    obtain ⟨g_3, h⟩ := gd_elim h
    refine Run.rN hX [] 700 [2, 3, 5, 79] [100, 101] ⟨[(2, (.ptr 100 0)), (3, (.ptr 101 0)), (5, (.d t2 x1)), (79, (.d t4 (!(eqD t56 (List.getD x2.2.2.2.2.2.2.1 (toN x1) ((0 : Int), (0 : Int), (0 : Int), (0 : Int), (0 : Int))) (List.getD x3.2.2.2.2.2.2.1 (toN x1) ((0 : Int), (0 : Int), (0 : Int), (0 : Int), (0 : Int)))))))], [(100, (.box 24 (.vcons (.d t23 x2) .vnil))), (101, (.box 24 (.vcons (.d t23 x3) .vnil)))]⟩ (aC g_0 (aC g_1 (aC g_2 (aC g_3 aN)))) ?_
    refine Run.cd (!(eqD t56 (List.getD x2.2.2.2.2.2.2.1 (toN x1) ((0 : Int), (0 : Int), (0 : Int), (0 : Int), (0 : Int))) (List.getD x3.2.2.2.2.2.2.1 (toN x1) ((0 : Int), (0 : Int), (0 : Int), (0 : Int), (0 : Int))))) (fun hb => ?_) (fun hb => ?_)
    · replace h := bif_t h hb
      refine Run.rN hX [] 800 [4] [] ⟨[(4, (.d t4 false))], []⟩ aN ?_
      refine Run.rt ?_
      obtain rfl := sI h
      exact ⟨rfl, [(.d t4 false)], by kernel_rfl, by kernel_rfl⟩
    · replace h := bif_f h hb
      refine Run.sk ?_
      show Run Pg 80 _ _ _
      refine Run.rE hX [] 600 [2, 3, 5] [100, 101] ⟨[(2, (.ptr 100 0)), (3, (.ptr 101 0)), (5, (.d t2 (wrapI .i64 (x1 + (1 : Int)))))], [(100, (.box 24 (.vcons (.d t23 x2) .vnil))), (101, (.box 24 (.vcons (.d t23 x3) .vnil)))]⟩ aN ?_
      exact ⟨m, Nat.lt_succ_self m, _, rfl, h⟩
  · replace h := bif_f h hb
    refine Run.kp (s' := ⟨[], []⟩) [] [] ?_
    refine Run.ex 0 ?_
    obtain rfl := sI h
    exact ⟨rfl, by kernel_rfl⟩

def F20 (a0 : Int × Int × Int × Int × Int × Int × (List (Int × Int × Int × Int × Int)) × Int) (a1 : Int × Int × Int × Int × Int × Int × (List (Int × Int × Int × Int × Int)) × Int) : Option (Bool) :=
 (bif (a0.1 != a1.1) then
 some false
 else
 (bif (a0.2.1 != a1.2.1) then
 some false
 else
 (bif (a0.2.2.1 != a1.2.2.1) then
 some false
 else
 (bif (a0.2.2.2.1 != a1.2.2.2.1) then
 some false
 else
 (bif (a0.2.2.2.2.1 != a1.2.2.2.2.1) then
 some false
 else
 (bif (a0.2.2.2.2.2.1 != a1.2.2.2.2.2.1) then
 some false
 else
 (bif (a0.2.2.2.2.2.2.2 != a1.2.2.2.2.2.2.2) then
 some false
 else
 (bif ((ofN (List.length a0.2.2.2.2.2.2.1)) != (ofN (List.length a1.2.2.2.2.2.2.1))) then
 some false
 else
 ((f20_l0 a0 a1 (2 + List.length a0.2.2.2.2.2.2.1 + List.length a1.2.2.2.2.2.2.1) (0 : Int)).bind fun o4 => match o4 with
 | .inl o5 =>
 some true
 | .inr o6 =>
 some o6)))))))))

theorem c20 {a0 : Int × Int × Int × Int × Int × Int × (List (Int × Int × Int × Int × Int)) × Int} {a1 : Int × Int × Int × Int × Int × Int × (List (Int × Int × Int × Int × Int)) × Int} {r : Bool} (h : F20 a0 a1 = some r) : CallPure Pg 20 [(.d t23 a0), (.d t23 a1)] (.d t4 r) := by
  refine callPureN hX c_20 80 [.tmp 4] [4] Go.Proofs.Tryz.func20 (by kernel_rfl) (by kernel_rfl) (by kernel_rfl) (Nat.le_of_ble_eq_true rfl) rfl rfl ?_
  show Run Pg 80 c_20 ⟨[(0, (.d t23 a0)), (1, (.d t23 a1))], []⟩ (fin20 r)
  unfold F20 at h
  refine Run.rN hX [] 100 [2, 3] [100, 101] ⟨[(2, (.ptr 100 0)), (3, (.ptr 101 0))], [(100, (.box 24 (.vcons (.d t23 a0) .vnil))), (101, (.box 24 (.vcons (.d t23 a1) .vnil)))]⟩ aN ?_
  refine Run.sq ?_
  rcases bif_elim h with ⟨hb0, h⟩ | ⟨hb0, h⟩
  · refine Run.rN hX [(5, .b true)] 200 [2, 3, 61] [100, 101] ⟨[(2, (.ptr 100 0)), (3, (.ptr 101 0)), (61, (.d t4 true))], [(100, (.box 24 (.vcons (.d t23 a0) .vnil))), (101, (.box 24 (.vcons (.d t23 a1) .vnil)))]⟩ (aC hb0 aN) ?_
    refine Run.cd true (fun hb => ?_) (fun hb => (by cases hb))
    refine Run.rN hX [] 300 [4] [] ⟨[(4, (.d t4 false))], []⟩ aN ?_
    refine Run.rt ?_
    obtain rfl := sI h
    exact ⟨[(.d t4 false)], by kernel_rfl, by kernel_rfl⟩
  · rcases bif_elim h with ⟨hb1, h⟩ | ⟨hb1, h⟩
    · refine Run.rN hX [(5, .b false), (12, .b true)] 200 [2, 3, 61] [100, 101] ⟨[(2, (.ptr 100 0)), (3, (.ptr 101 0)), (61, (.d t4 true))], [(100, (.box 24 (.vcons (.d t23 a0) .vnil))), (101, (.box 24 (.vcons (.d t23 a1) .vnil)))]⟩ (aC hb0 (aC hb1 aN)) ?_
      refine Run.cd true (fun hb => ?_) (fun hb => (by cases hb))
      refine Run.rN hX [] 300 [4] [] ⟨[(4, (.d t4 false))], []⟩ aN ?_
      refine Run.rt ?_
      obtain rfl := sI h
      exact ⟨[(.d t4 false)], by kernel_rfl, by kernel_rfl⟩
    · rcases bif_elim h with ⟨hb2, h⟩ | ⟨hb2, h⟩
      · refine Run.rN hX [(5, .b false), (12, .b false), (19, .b true)] 200 [2, 3, 61] [100, 101] ⟨[(2, (.ptr 100 0)), (3, (.ptr 101 0)), (61, (.d t4 true))], [(100, (.box 24 (.vcons (.d t23 a0) .vnil))), (101, (.box 24 (.vcons (.d t23 a1) .vnil)))]⟩ (aC hb0 (aC hb1 (aC hb2 aN))) ?_
        refine Run.cd true (fun hb => ?_) (fun hb => (by cases hb))
        refine Run.rN hX [] 300 [4] [] ⟨[(4, (.d t4 false))], []⟩ aN ?_
        refine Run.rt ?_
        obtain rfl := sI h
        exact ⟨[(.d t4 false)], by kernel_rfl, by kernel_rfl⟩
      · rcases bif_elim h with ⟨hb3, h⟩ | ⟨hb3, h⟩
        · refine Run.rN hX [(5, .b false), (12, .b false), (19, .b false), (26, .b true)] 200 [2, 3, 61] [100, 101] ⟨[(2, (.ptr 100 0)), (3, (.ptr 101 0)), (61, (.d t4 true))], [(100, (.box 24 (.vcons (.d t23 a0) .vnil))), (101, (.box 24 (.vcons (.d t23 a1) .vnil)))]⟩ (aC hb0 (aC hb1 (aC hb2 (aC hb3 aN)))) ?_
          refine Run.cd true (fun hb => ?_) (fun hb => (by cases hb))
          refine Run.rN hX [] 300 [4] [] ⟨[(4, (.d t4 false))], []⟩ aN ?_
          refine Run.rt ?_
          obtain rfl := sI h
          exact ⟨[(.d t4 false)], by kernel_rfl, by kernel_rfl⟩
        · rcases bif_elim h with ⟨hb4, h⟩ | ⟨hb4, h⟩
          · refine Run.rN hX [(5, .b false), (12, .b false), (19, .b false), (26, .b false), (33, .b true)] 200 [2, 3, 61] [100, 101] ⟨[(2, (.ptr 100 0)), (3, (.ptr 101 0)), (61, (.d t4 true))], [(100, (.box 24 (.vcons (.d t23 a0) .vnil))), (101, (.box 24 (.vcons (.d t23 a1) .vnil)))]⟩ (aC hb0 (aC hb1 (aC hb2 (aC hb3 (aC hb4 aN))))) ?_
            refine Run.cd true (fun hb => ?_) (fun hb => (by cases hb))
            refine Run.rN hX [] 300 [4] [] ⟨[(4, (.d t4 false))], []⟩ aN ?_
            refine Run.rt ?_
            obtain rfl := sI h
            exact ⟨[(.d t4 false)], by kernel_rfl, by kernel_rfl⟩
          · rcases bif_elim h with ⟨hb5, h⟩ | ⟨hb5, h⟩
            · refine Run.rN hX [(5, .b false), (12, .b false), (19, .b false), (26, .b false), (33, .b false), (40, .b true)] 200 [2, 3, 61] [100, 101] ⟨[(2, (.ptr 100 0)), (3, (.ptr 101 0)), (61, (.d t4 true))], [(100, (.box 24 (.vcons (.d t23 a0) .vnil))), (101, (.box 24 (.vcons (.d t23 a1) .vnil)))]⟩ (aC hb0 (aC hb1 (aC hb2 (aC hb3 (aC hb4 (aC hb5 aN)))))) ?_
              refine Run.cd true (fun hb => ?_) (fun hb => (by cases hb))
              refine Run.rN hX [] 300 [4] [] ⟨[(4, (.d t4 false))], []⟩ aN ?_
              refine Run.rt ?_
              obtain rfl := sI h
              exact ⟨[(.d t4 false)], by kernel_rfl, by kernel_rfl⟩
            · rcases bif_elim h with ⟨hb6, h⟩ | ⟨hb6, h⟩
              · refine Run.rN hX [(5, .b false), (12, .b false), (19, .b false), (26, .b false), (33, .b false), (40, .b false), (47, .b true)] 200 [2, 3, 61] [100, 101] ⟨[(2, (.ptr 100 0)), (3, (.ptr 101 0)), (61, (.d t4 true))], [(100, (.box 24 (.vcons (.d t23 a0) .vnil))), (101, (.box 24 (.vcons (.d t23 a1) .vnil)))]⟩ (aC hb0 (aC hb1 (aC hb2 (aC hb3 (aC hb4 (aC hb5 (aC hb6 aN))))))) ?_
                refine Run.cd true (fun hb => ?_) (fun hb => (by cases hb))
                refine Run.rN hX [] 300 [4] [] ⟨[(4, (.d t4 false))], []⟩ aN ?_
                refine Run.rt ?_
                obtain rfl := sI h
                exact ⟨[(.d t4 false)], by kernel_rfl, by kernel_rfl⟩
              · refine Run.rN hX [(5, .b false), (12, .b false), (19, .b false), (26, .b false), (33, .b false), (40, .b false), (47, .b false)] 200 [2, 3, 61] [100, 101] ⟨[(2, (.ptr 100 0)), (3, (.ptr 101 0)), (61, (.d t4 ((ofN (List.length a0.2.2.2.2.2.2.1)) != (ofN (List.length a1.2.2.2.2.2.2.1)))))], [(100, (.box 24 (.vcons (.d t23 a0) .vnil))), (101, (.box 24 (.vcons (.d t23 a1) .vnil)))]⟩ (aC hb0 (aC hb1 (aC hb2 (aC hb3 (aC hb4 (aC hb5 (aC hb6 aN))))))) ?_
                refine Run.cd ((ofN (List.length a0.2.2.2.2.2.2.1)) != (ofN (List.length a1.2.2.2.2.2.2.1))) (fun hb => ?_) (fun hb => ?_)
                · replace h := bif_t h hb
                  refine Run.rN hX [] 300 [4] [] ⟨[(4, (.d t4 false))], []⟩ aN ?_
                  refine Run.rt ?_
                  obtain rfl := sI h
                  exact ⟨[(.d t4 false)], by kernel_rfl, by kernel_rfl⟩
                · replace h := bif_f h hb
                  refine Run.sk ?_
                  show Run Pg 80 _ _ _
                  refine Run.sq ?_
                  refine Run.rN hX [] 400 [2, 3, 5] [100, 101] ⟨[(2, (.ptr 100 0)), (3, (.ptr 101 0)), (5, (.d t2 (0 : Int)))], [(100, (.box 24 (.vcons (.d t23 a0) .vnil))), (101, (.box 24 (.vcons (.d t23 a1) .vnil)))]⟩ aN ?_
                  refine Run.bl 0 ?_
                  obtain ⟨o4, h_o4, h⟩ := bnd_elim h
                  refine Run.mono (f20_l0_ok a0 a1 _ (0 : Int) h_o4) ?_
                  rcases o4 with o5 | o6
                  · rintro _ _ ⟨rfl, rfl⟩
                    show Run Pg 80 _ _ _
                    refine Run.rN hX [] 900 [4] [] ⟨[(4, (.d t4 true))], []⟩ aN ?_
                    refine Run.rt ?_
                    obtain rfl := sI h
                    exact ⟨[(.d t4 true)], by kernel_rfl, by kernel_rfl⟩
                  · rintro _ s ⟨rfl, hr⟩
                    obtain rfl := sI h
                    exact hr

/-! ## f82 -/

noncomputable def c_82 : Code := body0 Go.Proofs.Tryz.f82

def fin82 (r : Bool) : Ex → St → Prop := endK X0 [.tmp 2] [4] (.d t4 r)

def F82 (a0 : Int) : Option (Bool) :=
 (bif (decide ((97 : Int) ≤ a0)) then
 (bif (decide (a0 ≤ (122 : Int))) then
 some true
 else
 (bif (decide ((65 : Int) ≤ a0)) then
 some (decide (a0 ≤ (90 : Int)))
 else
 some false))
 else
 (bif (decide ((65 : Int) ≤ a0)) then
 some (decide (a0 ≤ (90 : Int)))
 else
 some false))

theorem c82 {a0 : Int} {r : Bool} (h : F82 a0 = some r) : CallPure Pg 82 [(.d t5 a0)] (.d t4 r) := by
  refine callPureN hX c_82 17 [.tmp 2] [4] Go.Proofs.Tryz.func82 (by kernel_rfl) (by kernel_rfl) (by kernel_rfl) (Nat.le_of_ble_eq_true rfl) rfl rfl ?_
  show Run Pg 17 c_82 ⟨[(0, (.d t5 a0))], []⟩ (fin82 r)
  unfold F82 at h
  refine Run.rN hX [] 100 [0] [] ⟨[(0, (.d t5 a0))], []⟩ aN ?_
  rcases bif_elim h with ⟨hb0, h⟩ | ⟨hb0, h⟩
  · rcases bif_elim h with ⟨hb1, h⟩ | ⟨hb1, h⟩
    · refine Run.rN hX [(2, .b true), (6, .b true)] 200 [2] [] ⟨[(2, (.d t4 true))], []⟩ (aC hb0 (aC hb1 aN)) ?_
      refine Run.rt ?_
      obtain rfl := sI h
      exact ⟨[(.d t4 true)], by kernel_rfl, by kernel_rfl⟩
    · rcases bif_elim h with ⟨hb2, h⟩ | ⟨hb2, h⟩
      · refine Run.rN hX [(2, .b true), (6, .b false), (9, .b true)] 200 [2] [] ⟨[(2, (.d t4 (decide (a0 ≤ (90 : Int)))))], []⟩ (aC hb0 (aC hb1 (aC hb2 aN))) ?_
        refine Run.rt ?_
        obtain rfl := sI h
        exact ⟨[(.d t4 (decide (a0 ≤ (90 : Int))))], by kernel_rfl, by kernel_rfl⟩
      · refine Run.rN hX [(2, .b true), (6, .b false), (9, .b false)] 200 [2] [] ⟨[(2, (.d t4 false))], []⟩ (aC hb0 (aC hb1 (aC hb2 aN))) ?_
        refine Run.rt ?_
        obtain rfl := sI h
        exact ⟨[(.d t4 false)], by kernel_rfl, by kernel_rfl⟩
  · rcases bif_elim h with ⟨hb1, h⟩ | ⟨hb1, h⟩
    · refine Run.rN hX [(2, .b false), (9, .b true)] 200 [2] [] ⟨[(2, (.d t4 (decide (a0 ≤ (90 : Int)))))], []⟩ (aC hb0 (aC hb1 aN)) ?_
      refine Run.rt ?_
      obtain rfl := sI h
      exact ⟨[(.d t4 (decide (a0 ≤ (90 : Int))))], by kernel_rfl, by kernel_rfl⟩
    · refine Run.rN hX [(2, .b false), (9, .b false)] 200 [2] [] ⟨[(2, (.d t4 false))], []⟩ (aC hb0 (aC hb1 aN)) ?_
      refine Run.rt ?_
      obtain rfl := sI h
      exact ⟨[(.d t4 false)], by kernel_rfl, by kernel_rfl⟩

/-! ## f85 -/

noncomputable def c_85 : Code := body0 Go.Proofs.Tryz.f85

def fin85 (r : Bool) : Ex → St → Prop := endK X0 [.tmp 2] [4] (.d t4 r)

def F85 (a0 : Int) : Option (Bool) :=
 (bif (decide ((48 : Int) ≤ a0)) then
 some (decide (a0 ≤ (57 : Int)))
 else
 some false)

theorem c85 {a0 : Int} {r : Bool} (h : F85 a0 = some r) : CallPure Pg 85 [(.d t5 a0)] (.d t4 r) := by
  refine callPureN hX c_85 9 [.tmp 2] [4] Go.Proofs.Tryz.func85 (by kernel_rfl) (by kernel_rfl) (by kernel_rfl) (Nat.le_of_ble_eq_true rfl) rfl rfl ?_
  show Run Pg 9 c_85 ⟨[(0, (.d t5 a0))], []⟩ (fin85 r)
  unfold F85 at h
  refine Run.rN hX [] 100 [0] [] ⟨[(0, (.d t5 a0))], []⟩ aN ?_
  rcases bif_elim h with ⟨hb0, h⟩ | ⟨hb0, h⟩
  · refine Run.rN hX [(2, .b true)] 200 [2] [] ⟨[(2, (.d t4 (decide (a0 ≤ (57 : Int)))))], []⟩ (aC hb0 aN) ?_
    refine Run.rt ?_
    obtain rfl := sI h
    exact ⟨[(.d t4 (decide (a0 ≤ (57 : Int))))], by kernel_rfl, by kernel_rfl⟩
  · refine Run.rN hX [(2, .b false)] 200 [2] [] ⟨[(2, (.d t4 false))], []⟩ (aC hb0 aN) ?_
    refine Run.rt ?_
    obtain rfl := sI h
    exact ⟨[(.d t4 false)], by kernel_rfl, by kernel_rfl⟩

/-! ## f135 -/

noncomputable def c_135 : Code := body0 Go.Proofs.Tryz.f135

def fin135 (r : RatL × Int) : Ex → St → Prop := endK X0 [.cell 4 70, .tmp 5] [70, 26] (.tup (.vcons (.d t69 r.1) (.vcons (.d t2 r.2) .vnil)))

def F135 (a0 : IntL) (a1 : IntL) : Option (RatL × Int) :=
 (F108 a1).bind fun y1 =>
 (bif (y1 == (0 : Int)) then
 some (((false, ([] : List Int)), (false, ([] : List Int))), (6 : Int))
 else
 (F67 a0 a1).bind fun y2 =>
 some (y2, (0 : Int)))

theorem c135 {a0 : IntL} {a1 : IntL} {r : RatL × Int} (h : F135 a0 a1 = some r) : CallPure Pg 135 [(.d t67 a0), (.d t67 a1)] (.tup (.vcons (.d t69 r.1) (.vcons (.d t2 r.2) .vnil))) := by
  refine callPureN hX c_135 13 [.cell 4 70, .tmp 5] [70, 26] Go.Proofs.Tryz.func135 (by kernel_rfl) (by kernel_rfl) (by kernel_rfl) (Nat.le_of_ble_eq_true rfl) rfl rfl ?_
  show Run Pg 13 c_135 ⟨[(0, (.d t67 a0)), (1, (.d t67 a1))], []⟩ (fin135 r)
  unfold F135 at h
  refine Run.rN hX [] 100 [2, 3, 4] [100, 101, 102] ⟨[(2, (.ptr 100 0)), (3, (.ptr 101 0)), (4, (.ptr 102 0))], [(100, (.box 68 (.vcons (.d t67 a0) .vnil))), (101, (.box 68 (.vcons (.d t67 a1) .vnil))), (102, (.box 70 (.vcons (.d t69 ((false, ([] : List Int)), (false, ([] : List Int)))) .vnil)))]⟩ aN ?_
  refine Run.sq ?_
  obtain ⟨y1, h_y1, h⟩ := bnd_elim h
  refine Run.rN hX [(1, .call (.d t2 y1))] 200 [2, 3, 4, 8] [100, 101, 102] ⟨[(2, (.ptr 100 0)), (3, (.ptr 101 0)), (4, (.ptr 102 0)), (8, (.d t4 (y1 == (0 : Int))))], [(100, (.box 68 (.vcons (.d t67 a0) .vnil))), (101, (.box 68 (.vcons (.d t67 a1) .vnil))), (102, (.box 70 (.vcons (.d t69 ((false, ([] : List Int)), (false, ([] : List Int)))) .vnil)))]⟩ (aC (c108 h_y1) aN) ?_
  refine Run.cd (y1 == (0 : Int)) (fun hb => ?_) (fun hb => ?_)
  · replace h := bif_t h hb
    refine Run.rN hX [] 300 [4, 5] [102] ⟨[(4, (.ptr 102 0)), (5, (.d t2 (6 : Int)))], [(102, (.box 70 (.vcons (.d t69 ((false, ([] : List Int)), (false, ([] : List Int)))) .vnil)))]⟩ aN ?_
    refine Run.rt ?_
    obtain rfl := sI h
    exact ⟨[(.d t69 ((false, ([] : List Int)), (false, ([] : List Int)))), (.d t2 (6 : Int))], by kernel_rfl, by kernel_rfl⟩
  · replace h := bif_f h hb
    refine Run.sk ?_
    show Run Pg 13 _ _ _
    obtain ⟨y2, h_y2, h⟩ := bnd_elim h
    refine Run.rN hX [(2, .call (.d t69 y2))] 400 [4, 5] [102] ⟨[(4, (.ptr 102 0)), (5, (.d t2 (0 : Int)))], [(102, (.box 70 (.vcons (.d t69 y2) .vnil)))]⟩ (aC (c67 h_y2) aN) ?_
    refine Run.rt ?_
    obtain rfl := sI h
    exact ⟨[(.d t69 y2), (.d t2 (0 : Int))], by kernel_rfl, by kernel_rfl⟩

/-! ## f136 -/

noncomputable def c_136 : Code := body0 Go.Proofs.Tryz.f136

def fin136 (r : IntL) : Ex → St → Prop := endK X0 [.cell 2 68] [68] (.d t67 r)

def f136_l0_post (x3 : Int) (x5 : IntL) (x7 : IntL) : (IntL) → Ex → St → Prop
 | o, x, s => x = .out 0 ∧ s = ⟨[(2, (.ptr 100 0)), (3, (.ptr 201 0))], [(100, (.box 68 (.vcons (.d t67 x5) .vnil))), (201, (.box 68 (.vcons (.d t67 o) .vnil)))]⟩

def f136_l0_b (x3 : Int) (x7 : IntL) (again : Int × IntL → Option (IntL)) : Int × IntL → Option (IntL)
 | (x4, x6) =>
 (bif (decide (x4 < x3)) then
 (F68 x6 x7).bind fun y9 =>
 again ((wrapI .i64 (x4 + (1 : Int))), y9)
 else
 some x6)

def f136_l0 (x3 : Int) (x7 : IntL) : Nat → Int × IntL → Option (IntL) := loopF (f136_l0_b x3 x7)

theorem f136_l0_ok (x3 : Int) (x5 : IntL) (x7 : IntL) (k : Nat) (x4 : Int) (x6 : IntL) {out : (IntL)} (h : f136_l0 x3 x7 k (x4, x6) = some out) : Run Pg 15 (bk1 (sq2 (sq1 (sq2 (sq2 (sq2 c_136)))))) ⟨[(2, (.ptr 100 0)), (3, (.ptr 201 0)), (4, (.ptr 301 0)), (7, (.d t2 x3)), (8, (.d t2 x4))], [(100, (.box 68 (.vcons (.d t67 x5) .vnil))), (201, (.box 68 (.vcons (.d t67 x6) .vnil))), (301, (.box 68 (.vcons (.d t67 x7) .vnil)))]⟩ (f136_l0_post x3 x5 x7 out) := by
  refine Run.loopN (by kernel_rfl) (fun m s => ∃ x4 x6, s = ⟨[(2, (.ptr 100 0)), (3, (.ptr 201 0)), (4, (.ptr 301 0)), (7, (.d t2 x3)), (8, (.d t2 x4))], [(100, (.box 68 (.vcons (.d t67 x5) .vnil))), (201, (.box 68 (.vcons (.d t67 x6) .vnil))), (301, (.box 68 (.vcons (.d t67 x7) .vnil)))]⟩ ∧ f136_l0 x3 x7 m (x4, x6) = some out) ?_ k ⟨x4, x6,  rfl, h⟩
  rintro m s ⟨x4, x6,  rfl, h⟩
  cases m with
  | zero => cases h
  | succ m =>
  replace h : f136_l0_b x3 x7 (f136_l0 x3 x7 m) (x4, x6) = some out := h
  unfold f136_l0_b at h
  refine Run.rN hX [] 500 [2, 3, 4, 7, 8, 9] [100, 201, 301] ⟨[(2, (.ptr 100 0)), (3, (.ptr 201 0)), (4, (.ptr 301 0)), (7, (.d t2 x3)), (8, (.d t2 x4)), (9, (.d t4 (decide (x4 < x3))))], [(100, (.box 68 (.vcons (.d t67 x5) .vnil))), (201, (.box 68 (.vcons (.d t67 x6) .vnil))), (301, (.box 68 (.vcons (.d t67 x7) .vnil)))]⟩ aN ?_
  refine Run.sq ?_
  refine Run.cd (decide (x4 < x3)) (fun hb => ?_) (fun hb => ?_)
  · replace h := bif_t h hb
    refine Run.sk ?_
    show Run Pg 15 _ _ _
    refine Run.sq ?_
    refine Run.bl 1 ?_
    obtain ⟨y9, h_y9, h⟩ := bnd_elim h
    refine Run.rE hX [(2, .call (.d t67 y9))] 600 [2, 3, 4, 7, 8] [100, 201, 301] ⟨[(2, (.ptr 100 0)), (3, (.ptr 201 0)), (4, (.ptr 301 0)), (7, (.d t2 x3)), (8, (.d t2 x4))], [(100, (.box 68 (.vcons (.d t67 x5) .vnil))), (201, (.box 68 (.vcons (.d t67 y9) .vnil))), (301, (.box 68 (.vcons (.d t67 x7) .vnil)))]⟩ (aC (c68 h_y9) aN) ?_
    show Run Pg 15 _ _ _
    refine Run.rE hX [] 700 [2, 3, 4, 7, 8] [100, 201, 301] ⟨[(2, (.ptr 100 0)), (3, (.ptr 201 0)), (4, (.ptr 301 0)), (7, (.d t2 x3)), (8, (.d t2 (wrapI .i64 (x4 + (1 : Int)))))], [(100, (.box 68 (.vcons (.d t67 x5) .vnil))), (201, (.box 68 (.vcons (.d t67 y9) .vnil))), (301, (.box 68 (.vcons (.d t67 x7) .vnil)))]⟩ aN ?_
    exact ⟨m, Nat.lt_succ_self m, _, _, rfl, h⟩
  · replace h := bif_f h hb
    refine Run.kp (s' := ⟨[(2, (.ptr 100 0)), (3, (.ptr 201 0))], [(100, (.box 68 (.vcons (.d t67 x5) .vnil))), (201, (.box 68 (.vcons (.d t67 x6) .vnil)))]⟩) [2, 3] [100, 201] ?_
    refine Run.ex 0 ?_
    obtain rfl := sI h
    exact ⟨rfl, by kernel_rfl⟩

def F136 (a0 : Int) : Option (IntL) :=
 (F66 (1 : Int)).bind fun y1 =>
 (F66 (10 : Int)).bind fun y2 =>
 ((f136_l0 a0 y2 (2 + Int.toNat a0) ((0 : Int), y1)).bind fun o10 =>
 some o10)

theorem c136 {a0 : Int} {r : IntL} (h : F136 a0 = some r) : CallPure Pg 136 [(.d t2 a0)] (.d t67 r) := by
  refine callPureN hX c_136 15 [.cell 2 68] [68] Go.Proofs.Tryz.func136 (by kernel_rfl) (by kernel_rfl) (by kernel_rfl) (Nat.le_of_ble_eq_true rfl) rfl rfl ?_
  show Run Pg 15 c_136 ⟨[(0, (.d t2 a0))], []⟩ (fin136 r)
  unfold F136 at h
  refine Run.rN hX [] 100 [0, 2] [100] ⟨[(0, (.d t2 a0)), (2, (.ptr 100 0))], [(100, (.box 68 (.vcons (.d t67 (false, ([] : List Int))) .vnil)))]⟩ aN ?_
  obtain ⟨y1, h_y1, h⟩ := bnd_elim h
  refine Run.rN hX [(0, .call (.d t67 y1))] 200 [0, 2, 3] [100, 201] ⟨[(0, (.d t2 a0)), (2, (.ptr 100 0)), (3, (.ptr 201 0))], [(100, (.box 68 (.vcons (.d t67 (false, ([] : List Int))) .vnil))), (201, (.box 68 (.vcons (.d t67 y1) .vnil)))]⟩ (aC (c66 h_y1) aN) ?_
  obtain ⟨y2, h_y2, h⟩ := bnd_elim h
  refine Run.rN hX [(0, .call (.d t67 y2))] 300 [0, 2, 3, 4] [100, 201, 301] ⟨[(0, (.d t2 a0)), (2, (.ptr 100 0)), (3, (.ptr 201 0)), (4, (.ptr 301 0))], [(100, (.box 68 (.vcons (.d t67 (false, ([] : List Int))) .vnil))), (201, (.box 68 (.vcons (.d t67 y1) .vnil))), (301, (.box 68 (.vcons (.d t67 y2) .vnil)))]⟩ (aC (c66 h_y2) aN) ?_
  refine Run.sq ?_
  refine Run.rN hX [] 400 [2, 3, 4, 7, 8] [100, 201, 301] ⟨[(2, (.ptr 100 0)), (3, (.ptr 201 0)), (4, (.ptr 301 0)), (7, (.d t2 a0)), (8, (.d t2 (0 : Int)))], [(100, (.box 68 (.vcons (.d t67 (false, ([] : List Int))) .vnil))), (201, (.box 68 (.vcons (.d t67 y1) .vnil))), (301, (.box 68 (.vcons (.d t67 y2) .vnil)))]⟩ aN ?_
  refine Run.bl 0 ?_
  obtain ⟨o10, h_o10, h⟩ := bnd_elim h
  refine Run.mono (f136_l0_ok a0 (false, ([] : List Int)) y2 _ (0 : Int) y1 h_o10) ?_
  rintro _ _ ⟨rfl, rfl⟩
  show Run Pg 15 _ _ _
  refine Run.rN hX [] 800 [2] [100] ⟨[(2, (.ptr 100 0))], [(100, (.box 68 (.vcons (.d t67 o10) .vnil)))]⟩ aN ?_
  refine Run.rt ?_
  obtain rfl := sI h
  exact ⟨[(.d t67 o10)], by kernel_rfl, by kernel_rfl⟩

/-! ## f29 -/

noncomputable def c_29 : Code := body0 Go.Proofs.Tryz.f29

def fin29 (r : Bool) : Ex → St → Prop := endK X0 [.tmp 4] [4] (.d t4 r)

def F29 (a0 : Int) (a1 : Int) : Option (Bool) :=
 (bif (decide (a1 ≤ a0)) then
 some (decide (a0 ≤ (10000000 : Int)))
 else
 some false)

theorem c29 {a0 : Int} {a1 : Int} {r : Bool} (h : F29 a0 a1 = some r) : CallPure Pg 29 [(.d t2 a0), (.d t2 a1)] (.d t4 r) := by
  refine callPureN hX c_29 12 [.tmp 4] [4] Go.Proofs.Tryz.func29 (by kernel_rfl) (by kernel_rfl) (by kernel_rfl) (Nat.le_of_ble_eq_true rfl) rfl rfl ?_
  show Run Pg 12 c_29 ⟨[(0, (.d t2 a0)), (1, (.d t2 a1))], []⟩ (fin29 r)
  unfold F29 at h
  refine Run.rN hX [] 100 [0, 1] [] ⟨[(0, (.d t2 a0)), (1, (.d t2 a1))], []⟩ aN ?_
  rcases bif_elim h with ⟨hb0, h⟩ | ⟨hb0, h⟩
  · refine Run.rN hX [(3, .b true)] 200 [4] [] ⟨[(4, (.d t4 (decide (a0 ≤ (10000000 : Int)))))], []⟩ (aC hb0 aN) ?_
    refine Run.rt ?_
    obtain rfl := sI h
    exact ⟨[(.d t4 (decide (a0 ≤ (10000000 : Int))))], by kernel_rfl, by kernel_rfl⟩
  · refine Run.rN hX [(3, .b false)] 200 [4] [] ⟨[(4, (.d t4 false))], []⟩ (aC hb0 aN) ?_
    refine Run.rt ?_
    obtain rfl := sI h
    exact ⟨[(.d t4 false)], by kernel_rfl, by kernel_rfl⟩

/-! ## f28 -/

noncomputable def c_28 : Code := body0 Go.Proofs.Tryz.f28

def fin28 (r : Bool) : Ex → St → Prop := endK X0 [.tmp 8] [4] (.d t4 r)

def F28 (a0 : Int) (a1 : Int) (a2 : Int) (a3 : Int) : Option (Bool) :=
 (F29 a0 (-10000000 : Int)).bind fun y1 =>
 (bif y1 then
 (F29 a1 (-10000000 : Int)).bind fun y2 =>
 (bif y2 then
 (F29 a2 (-10000000 : Int)).bind fun y3 =>
 (bif y3 then
 (F29 a3 (-10000000 : Int)).bind fun y4 =>
 (bif y4 then
 (bif (decide (a0 < a2)) then
 some (decide (a1 < a3))
 else
 some false)
 else
 some false)
 else
 some false)
 else
 some false)
 else
 some false)

theorem c28 {a0 : Int} {a1 : Int} {a2 : Int} {a3 : Int} {r : Bool} (h : F28 a0 a1 a2 a3 = some r) : CallPure Pg 28 [(.d t2 a0), (.d t2 a1), (.d t2 a2), (.d t2 a3)] (.d t4 r) := by
  refine callPureN hX c_28 38 [.tmp 8] [4] Go.Proofs.Tryz.func28 (by kernel_rfl) (by kernel_rfl) (by kernel_rfl) (Nat.le_of_ble_eq_true rfl) rfl rfl ?_
  show Run Pg 38 c_28 ⟨[(0, (.d t2 a0)), (1, (.d t2 a1)), (2, (.d t2 a2)), (3, (.d t2 a3))], []⟩ (fin28 r)
  unfold F28 at h
  refine Run.rN hX [] 100 [0, 1, 2, 3] [] ⟨[(0, (.d t2 a0)), (1, (.d t2 a1)), (2, (.d t2 a2)), (3, (.d t2 a3))], []⟩ aN ?_
  refine Run.rN hX [] 200 [0, 1, 2, 3, 9] [] ⟨[(0, (.d t2 a0)), (1, (.d t2 a1)), (2, (.d t2 a2)), (3, (.d t2 a3)), (9, (.d t2 (-10000000 : Int)))], []⟩ aN ?_
  obtain ⟨y1, h_y1, h⟩ := bnd_elim h
  rcases bif_elim h with ⟨hb1, h⟩ | ⟨hb1, h⟩
  · obtain ⟨y2, h_y2, h⟩ := bnd_elim h
    rcases bif_elim h with ⟨hb3, h⟩ | ⟨hb3, h⟩
    · obtain ⟨y3, h_y3, h⟩ := bnd_elim h
      rcases bif_elim h with ⟨hb5, h⟩ | ⟨hb5, h⟩
      · obtain ⟨y4, h_y4, h⟩ := bnd_elim h
        rcases bif_elim h with ⟨hb7, h⟩ | ⟨hb7, h⟩
        · rcases bif_elim h with ⟨hb8, h⟩ | ⟨hb8, h⟩
          · refine Run.rN hX [(2, .call (.d t4 y1)), (3, .b true), (6, .call (.d t4 y2)), (8, .b true), (11, .call (.d t4 y3)), (13, .b true), (16, .call (.d t4 y4)), (18, .b true), (23, .b true)] 300 [8] [] ⟨[(8, (.d t4 (decide (a1 < a3))))], []⟩ (aC (c29 h_y1) (aC hb1 (aC (c29 h_y2) (aC hb3 (aC (c29 h_y3) (aC hb5 (aC (c29 h_y4) (aC hb7 (aC hb8 aN))))))))) ?_
            refine Run.rt ?_
            obtain rfl := sI h
            exact ⟨[(.d t4 (decide (a1 < a3)))], by kernel_rfl, by kernel_rfl⟩
          · refine Run.rN hX [(2, .call (.d t4 y1)), (3, .b true), (6, .call (.d t4 y2)), (8, .b true), (11, .call (.d t4 y3)), (13, .b true), (16, .call (.d t4 y4)), (18, .b true), (23, .b false)] 300 [8] [] ⟨[(8, (.d t4 false))], []⟩ (aC (c29 h_y1) (aC hb1 (aC (c29 h_y2) (aC hb3 (aC (c29 h_y3) (aC hb5 (aC (c29 h_y4) (aC hb7 (aC hb8 aN))))))))) ?_
            refine Run.rt ?_
            obtain rfl := sI h
            exact ⟨[(.d t4 false)], by kernel_rfl, by kernel_rfl⟩
        · refine Run.rN hX [(2, .call (.d t4 y1)), (3, .b true), (6, .call (.d t4 y2)), (8, .b true), (11, .call (.d t4 y3)), (13, .b true), (16, .call (.d t4 y4)), (18, .b false)] 300 [8] [] ⟨[(8, (.d t4 false))], []⟩ (aC (c29 h_y1) (aC hb1 (aC (c29 h_y2) (aC hb3 (aC (c29 h_y3) (aC hb5 (aC (c29 h_y4) (aC hb7 aN)))))))) ?_
          refine Run.rt ?_
          obtain rfl := sI h
          exact ⟨[(.d t4 false)], by kernel_rfl, by kernel_rfl⟩
      · refine Run.rN hX [(2, .call (.d t4 y1)), (3, .b true), (6, .call (.d t4 y2)), (8, .b true), (11, .call (.d t4 y3)), (13, .b false)] 300 [8] [] ⟨[(8, (.d t4 false))], []⟩ (aC (c29 h_y1) (aC hb1 (aC (c29 h_y2) (aC hb3 (aC (c29 h_y3) (aC hb5 aN)))))) ?_
        refine Run.rt ?_
        obtain rfl := sI h
        exact ⟨[(.d t4 false)], by kernel_rfl, by kernel_rfl⟩
    · refine Run.rN hX [(2, .call (.d t4 y1)), (3, .b true), (6, .call (.d t4 y2)), (8, .b false)] 300 [8] [] ⟨[(8, (.d t4 false))], []⟩ (aC (c29 h_y1) (aC hb1 (aC (c29 h_y2) (aC hb3 aN)))) ?_
      refine Run.rt ?_
      obtain rfl := sI h
      exact ⟨[(.d t4 false)], by kernel_rfl, by kernel_rfl⟩
  · refine Run.rN hX [(2, .call (.d t4 y1)), (3, .b false)] 300 [8] [] ⟨[(8, (.d t4 false))], []⟩ (aC (c29 h_y1) (aC hb1 aN)) ?_
    refine Run.rt ?_
    obtain rfl := sI h
    exact ⟨[(.d t4 false)], by kernel_rfl, by kernel_rfl⟩

/-! ## f11 -/

noncomputable def c_11 : Code := body0 Go.Proofs.Tryz.f11

def fin11 (r : Int) : Ex → St → Prop := endK X0 [.tmp 2] [26] (.d t2 r)

def f11_l0_post (x4 : Int × Int × Int × Int × Int × Int × (List (Int × Int × Int × Int × Int)) × Int) : (Bool) → Ex → St → Prop
 | o, x, s => x = .out 0 ∧ s = ⟨[(3, (.d t4 o))], []⟩

def f11_l0_b (x4 : Int × Int × Int × Int × Int × Int × (List (Int × Int × Int × Int × Int)) × Int) (again : Bool × Int → Option (Bool)) : Bool × Int → Option (Bool)
 | (x2, x3) =>
 (bif (decide (x3 < (ofN (List.length x4.2.2.2.2.2.2.1)))) then
 (bif x2 then
 gd (0 ≤ x3) <|
 gd (x3 < ((List.length x4.2.2.2.2.2.2.1 : Nat) : Int)) <|
 (F28 (List.getD x4.2.2.2.2.2.2.1 (toN x3) ((0 : Int), (0 : Int), (0 : Int), (0 : Int), (0 : Int))).1 (List.getD x4.2.2.2.2.2.2.1 (toN x3) ((0 : Int), (0 : Int), (0 : Int), (0 : Int), (0 : Int))).2.1 (List.getD x4.2.2.2.2.2.2.1 (toN x3) ((0 : Int), (0 : Int), (0 : Int), (0 : Int), (0 : Int))).2.2.1 (List.getD x4.2.2.2.2.2.2.1 (toN x3) ((0 : Int), (0 : Int), (0 : Int), (0 : Int), (0 : Int))).2.2.2.1).bind fun y6 =>
 (bif y6 then
 (F29 (List.getD x4.2.2.2.2.2.2.1 (toN x3) ((0 : Int), (0 : Int), (0 : Int), (0 : Int), (0 : Int))).2.2.2.2 (max2i (wrapI .i64 ((wrapI .i64 (0 - x4.2.2.2.2.1)) - x4.2.2.2.2.2.1)) (-10000000 : Int))).bind fun y7 =>
 (bif y7 then
 again ((decide ((List.getD x4.2.2.2.2.2.2.1 (toN x3) ((0 : Int), (0 : Int), (0 : Int), (0 : Int), (0 : Int))).2.2.2.2 < x4.2.2.2.2.2.2.2)), (wrapI .i64 (x3 + (1 : Int))))
 else
 again (false, (wrapI .i64 (x3 + (1 : Int)))))
 else
 again (false, (wrapI .i64 (x3 + (1 : Int)))))
 else
 some x2)
 else
 some x2)

def f11_l0 (x4 : Int × Int × Int × Int × Int × Int × (List (Int × Int × Int × Int × Int)) × Int) : Nat → Bool × Int → Option (Bool) := loopF (f11_l0_b x4)

theorem f11_l0_ok (x4 : Int × Int × Int × Int × Int × Int × (List (Int × Int × Int × Int × Int)) × Int) (k : Nat) (x2 : Bool) (x3 : Int) {out : (Bool)} (h : f11_l0 x4 k (x2, x3) = some out) : Run Pg 81 (bk1 (sq2 (sq1 (sq2 (sq2 c_11))))) ⟨[(1, (.ptr 100 0)), (3, (.d t4 x2)), (4, (.d t2 x3))], [(100, (.box 24 (.vcons (.d t23 x4) .vnil)))]⟩ (f11_l0_post x4 out) := by
  refine Run.loopN (by kernel_rfl) (fun m s => ∃ x2 x3, s = ⟨[(1, (.ptr 100 0)), (3, (.d t4 x2)), (4, (.d t2 x3))], [(100, (.box 24 (.vcons (.d t23 x4) .vnil)))]⟩ ∧ f11_l0 x4 m (x2, x3) = some out) ?_ k ⟨x2, x3,  rfl, h⟩
  rintro m s ⟨x2, x3,  rfl, h⟩
  cases m with
  | zero => cases h
  | succ m =>
  replace h : f11_l0_b x4 (f11_l0 x4 m) (x2, x3) = some out := h
  unfold f11_l0_b at h
  refine Run.sq ?_
  rcases bif_elim h with ⟨hb0, h⟩ | ⟨hb0, h⟩
  · refine Run.rN hX [(5, .b true)] 400 [1, 3, 4, 43] [100] ⟨[(1, (.ptr 100 0)), (3, (.d t4 x2)), (4, (.d t2 x3)), (43, (.d t4 x2))], [(100, (.box 24 (.vcons (.d t23 x4) .vnil)))]⟩ (aC hb0 aN) ?_
    refine Run.cd x2 (fun hb => ?_) (fun hb => ?_)
    · replace h := bif_t h hb
      refine Run.sk ?_
      show Run Pg 81 _ _ _
      refine Run.sq ?_
      refine Run.bl 1 ?_
      obtain ⟨g_0, h⟩ := gd_elim h
      obtain ⟨g_1, h⟩ := gd_elim h
      refine Run.rN hX [] 600 [1, 4, 5] [100, 605] ⟨[(1, (.ptr 100 0)), (4, (.d t2 x3)), (5, (.ptr 605 0))], [(100, (.box 24 (.vcons (.d t23 x4) .vnil))), (605, (.box 57 (.vcons (.d t56 (List.getD x4.2.2.2.2.2.2.1 (toN x3) ((0 : Int), (0 : Int), (0 : Int), (0 : Int), (0 : Int)))) .vnil)))]⟩ (aC g_0 (aC g_1 aN)) ?_
      obtain ⟨y6, h_y6, h⟩ := bnd_elim h
      rcases bif_elim h with ⟨hb1, h⟩ | ⟨hb1, h⟩
      · obtain ⟨y7, h_y7, h⟩ := bnd_elim h
        rcases bif_elim h with ⟨hb3, h⟩ | ⟨hb3, h⟩
        · refine Run.rE hX [(8, .call (.d t4 y6)), (9, .b true), (19, .call (.d t4 y7)), (21, .b true)] 700 [1, 3, 4] [100] ⟨[(1, (.ptr 100 0)), (3, (.d t4 (decide ((List.getD x4.2.2.2.2.2.2.1 (toN x3) ((0 : Int), (0 : Int), (0 : Int), (0 : Int), (0 : Int))).2.2.2.2 < x4.2.2.2.2.2.2.2)))), (4, (.d t2 x3))], [(100, (.box 24 (.vcons (.d t23 x4) .vnil)))]⟩ (aC (c28 h_y6) (aC hb1 (aC (c29 h_y7) (aC hb3 aN)))) ?_
          show Run Pg 81 _ _ _
          refine Run.rE hX [] 500 [1, 3, 4] [100] ⟨[(1, (.ptr 100 0)), (3, (.d t4 (decide ((List.getD x4.2.2.2.2.2.2.1 (toN x3) ((0 : Int), (0 : Int), (0 : Int), (0 : Int), (0 : Int))).2.2.2.2 < x4.2.2.2.2.2.2.2)))), (4, (.d t2 (wrapI .i64 (x3 + (1 : Int)))))], [(100, (.box 24 (.vcons (.d t23 x4) .vnil)))]⟩ aN ?_
          exact ⟨m, Nat.lt_succ_self m, _, _, rfl, h⟩
        · refine Run.rE hX [(8, .call (.d t4 y6)), (9, .b true), (19, .call (.d t4 y7)), (21, .b false)] 700 [1, 3, 4] [100] ⟨[(1, (.ptr 100 0)), (3, (.d t4 false)), (4, (.d t2 x3))], [(100, (.box 24 (.vcons (.d t23 x4) .vnil)))]⟩ (aC (c28 h_y6) (aC hb1 (aC (c29 h_y7) (aC hb3 aN)))) ?_
          show Run Pg 81 _ _ _
          refine Run.rE hX [] 500 [1, 3, 4] [100] ⟨[(1, (.ptr 100 0)), (3, (.d t4 false)), (4, (.d t2 (wrapI .i64 (x3 + (1 : Int)))))], [(100, (.box 24 (.vcons (.d t23 x4) .vnil)))]⟩ aN ?_
          exact ⟨m, Nat.lt_succ_self m, _, _, rfl, h⟩
      · refine Run.rE hX [(8, .call (.d t4 y6)), (9, .b false)] 700 [1, 3, 4] [100] ⟨[(1, (.ptr 100 0)), (3, (.d t4 false)), (4, (.d t2 x3))], [(100, (.box 24 (.vcons (.d t23 x4) .vnil)))]⟩ (aC (c28 h_y6) (aC hb1 aN)) ?_
        show Run Pg 81 _ _ _
        refine Run.rE hX [] 500 [1, 3, 4] [100] ⟨[(1, (.ptr 100 0)), (3, (.d t4 false)), (4, (.d t2 (wrapI .i64 (x3 + (1 : Int)))))], [(100, (.box 24 (.vcons (.d t23 x4) .vnil)))]⟩ aN ?_
        exact ⟨m, Nat.lt_succ_self m, _, _, rfl, h⟩
    · replace h := bif_f h hb
      refine Run.kp (s' := ⟨[(3, (.d t4 x2))], []⟩) [3] [] ?_
      refine Run.ex 0 ?_
      obtain rfl := sI h
      exact ⟨rfl, by kernel_rfl⟩
  · refine Run.rN hX [(5, .b false)] 400 [1, 3, 4, 43] [100] ⟨[(1, (.ptr 100 0)), (3, (.d t4 x2)), (4, (.d t2 x3)), (43, (.d t4 false))], [(100, (.box 24 (.vcons (.d t23 x4) .vnil)))]⟩ (aC hb0 aN) ?_
    refine Run.cd false (fun hb => (by cases hb)) (fun hb => ?_)
    refine Run.kp (s' := ⟨[(3, (.d t4 x2))], []⟩) [3] [] ?_
    refine Run.ex 0 ?_
    obtain rfl := sI h
    exact ⟨rfl, by kernel_rfl⟩

def f11_l1_post (x10 : Int × Int × Int × Int × Int × Int × (List (Int × Int × Int × Int × Int)) × Int) : (Bool) → Ex → St → Prop
 | o, x, s => x = .out 0 ∧ s = ⟨[(3, (.d t4 o))], []⟩

def f11_l1_b (x10 : Int × Int × Int × Int × Int × Int × (List (Int × Int × Int × Int × Int)) × Int) (again : Bool × Int → Option (Bool)) : Bool × Int → Option (Bool)
 | (x8, x9) =>
 (bif (decide (x9 < (ofN (List.length x10.2.2.2.2.2.2.1)))) then
 (bif x8 then
 gd (0 ≤ x9) <|
 gd (x9 < ((List.length x10.2.2.2.2.2.2.1 : Nat) : Int)) <|
 (F28 (List.getD x10.2.2.2.2.2.2.1 (toN x9) ((0 : Int), (0 : Int), (0 : Int), (0 : Int), (0 : Int))).1 (List.getD x10.2.2.2.2.2.2.1 (toN x9) ((0 : Int), (0 : Int), (0 : Int), (0 : Int), (0 : Int))).2.1 (List.getD x10.2.2.2.2.2.2.1 (toN x9) ((0 : Int), (0 : Int), (0 : Int), (0 : Int), (0 : Int))).2.2.1 (List.getD x10.2.2.2.2.2.2.1 (toN x9) ((0 : Int), (0 : Int), (0 : Int), (0 : Int), (0 : Int))).2.2.2.1).bind fun y12 =>
 (bif y12 then
 (F29 (List.getD x10.2.2.2.2.2.2.1 (toN x9) ((0 : Int), (0 : Int), (0 : Int), (0 : Int), (0 : Int))).2.2.2.2 (max2i (wrapI .i64 ((wrapI .i64 (0 - x10.2.2.2.2.1)) - x10.2.2.2.2.2.1)) (-10000000 : Int))).bind fun y13 =>
 (bif y13 then
 again ((decide ((List.getD x10.2.2.2.2.2.2.1 (toN x9) ((0 : Int), (0 : Int), (0 : Int), (0 : Int), (0 : Int))).2.2.2.2 < x10.2.2.2.2.2.2.2)), (wrapI .i64 (x9 + (1 : Int))))
 else
 again (false, (wrapI .i64 (x9 + (1 : Int)))))
 else
 again (false, (wrapI .i64 (x9 + (1 : Int)))))
 else
 some x8)
 else
 some x8)

def f11_l1 (x10 : Int × Int × Int × Int × Int × Int × (List (Int × Int × Int × Int × Int)) × Int) : Nat → Bool × Int → Option (Bool) := loopF (f11_l1_b x10)

theorem f11_l1_ok (x10 : Int × Int × Int × Int × Int × Int × (List (Int × Int × Int × Int × Int)) × Int) (k : Nat) (x8 : Bool) (x9 : Int) {out : (Bool)} (h : f11_l1 x10 k (x8, x9) = some out) : Run Pg 81 (bk1 (sq2 (sq1 (sq2 (sq2 c_11))))) ⟨[(1, (.ptr 100 0)), (3, (.d t4 x8)), (4, (.d t2 x9))], [(100, (.box 24 (.vcons (.d t23 x10) .vnil)))]⟩ (f11_l1_post x10 out) := by
  refine Run.loopN (by kernel_rfl) (fun m s => ∃ x8 x9, s = ⟨[(1, (.ptr 100 0)), (3, (.d t4 x8)), (4, (.d t2 x9))], [(100, (.box 24 (.vcons (.d t23 x10) .vnil)))]⟩ ∧ f11_l1 x10 m (x8, x9) = some out) ?_ k ⟨x8, x9,  rfl, h⟩
  rintro m s ⟨x8, x9,  rfl, h⟩
  cases m with
  | zero => cases h
  | succ m =>
  replace h : f11_l1_b x10 (f11_l1 x10 m) (x8, x9) = some out := h
  unfold f11_l1_b at h
  refine Run.sq ?_
  rcases bif_elim h with ⟨hb0, h⟩ | ⟨hb0, h⟩
  · refine Run.rN hX [(5, .b true)] 400 [1, 3, 4, 43] [100] ⟨[(1, (.ptr 100 0)), (3, (.d t4 x8)), (4, (.d t2 x9)), (43, (.d t4 x8))], [(100, (.box 24 (.vcons (.d t23 x10) .vnil)))]⟩ (aC hb0 aN) ?_
    refine Run.cd x8 (fun hb => ?_) (fun hb => ?_)
    · replace h := bif_t h hb
      refine Run.sk ?_
      show Run Pg 81 _ _ _
      refine Run.sq ?_
      refine Run.bl 1 ?_
      obtain ⟨g_0, h⟩ := gd_elim h
      obtain ⟨g_1, h⟩ := gd_elim h
      refine Run.rN hX [] 600 [1, 4, 5] [100, 605] ⟨[(1, (.ptr 100 0)), (4, (.d t2 x9)), (5, (.ptr 605 0))], [(100, (.box 24 (.vcons (.d t23 x10) .vnil))), (605, (.box 57 (.vcons (.d t56 (List.getD x10.2.2.2.2.2.2.1 (toN x9) ((0 : Int), (0 : Int), (0 : Int), (0 : Int), (0 : Int)))) .vnil)))]⟩ (aC g_0 (aC g_1 aN)) ?_
      obtain ⟨y12, h_y12, h⟩ := bnd_elim h
      rcases bif_elim h with ⟨hb1, h⟩ | ⟨hb1, h⟩
      · obtain ⟨y13, h_y13, h⟩ := bnd_elim h
        rcases bif_elim h with ⟨hb3, h⟩ | ⟨hb3, h⟩
        · refine Run.rE hX [(8, .call (.d t4 y12)), (9, .b true), (19, .call (.d t4 y13)), (21, .b true)] 700 [1, 3, 4] [100] ⟨[(1, (.ptr 100 0)), (3, (.d t4 (decide ((List.getD x10.2.2.2.2.2.2.1 (toN x9) ((0 : Int), (0 : Int), (0 : Int), (0 : Int), (0 : Int))).2.2.2.2 < x10.2.2.2.2.2.2.2)))), (4, (.d t2 x9))], [(100, (.box 24 (.vcons (.d t23 x10) .vnil)))]⟩ (aC (c28 h_y12) (aC hb1 (aC (c29 h_y13) (aC hb3 aN)))) ?_
          show Run Pg 81 _ _ _
          refine Run.rE hX [] 500 [1, 3, 4] [100] ⟨[(1, (.ptr 100 0)), (3, (.d t4 (decide ((List.getD x10.2.2.2.2.2.2.1 (toN x9) ((0 : Int), (0 : Int), (0 : Int), (0 : Int), (0 : Int))).2.2.2.2 < x10.2.2.2.2.2.2.2)))), (4, (.d t2 (wrapI .i64 (x9 + (1 : Int)))))], [(100, (.box 24 (.vcons (.d t23 x10) .vnil)))]⟩ aN ?_
          exact ⟨m, Nat.lt_succ_self m, _, _, rfl, h⟩
        · refine Run.rE hX [(8, .call (.d t4 y12)), (9, .b true), (19, .call (.d t4 y13)), (21, .b false)] 700 [1, 3, 4] [100] ⟨[(1, (.ptr 100 0)), (3, (.d t4 false)), (4, (.d t2 x9))], [(100, (.box 24 (.vcons (.d t23 x10) .vnil)))]⟩ (aC (c28 h_y12) (aC hb1 (aC (c29 h_y13) (aC hb3 aN)))) ?_
          show Run Pg 81 _ _ _
          refine Run.rE hX [] 500 [1, 3, 4] [100] ⟨[(1, (.ptr 100 0)), (3, (.d t4 false)), (4, (.d t2 (wrapI .i64 (x9 + (1 : Int)))))], [(100, (.box 24 (.vcons (.d t23 x10) .vnil)))]⟩ aN ?_
          exact ⟨m, Nat.lt_succ_self m, _, _, rfl, h⟩
      · refine Run.rE hX [(8, .call (.d t4 y12)), (9, .b false)] 700 [1, 3, 4] [100] ⟨[(1, (.ptr 100 0)), (3, (.d t4 false)), (4, (.d t2 x9))], [(100, (.box 24 (.vcons (.d t23 x10) .vnil)))]⟩ (aC (c28 h_y12) (aC hb1 aN)) ?_
        show Run Pg 81 _ _ _
        refine Run.rE hX [] 500 [1, 3, 4] [100] ⟨[(1, (.ptr 100 0)), (3, (.d t4 false)), (4, (.d t2 (wrapI .i64 (x9 + (1 : Int)))))], [(100, (.box 24 (.vcons (.d t23 x10) .vnil)))]⟩ aN ?_
        exact ⟨m, Nat.lt_succ_self m, _, _, rfl, h⟩
    · replace h := bif_f h hb
      refine Run.kp (s' := ⟨[(3, (.d t4 x8))], []⟩) [3] [] ?_
      refine Run.ex 0 ?_
      obtain rfl := sI h
      exact ⟨rfl, by kernel_rfl⟩
  · refine Run.rN hX [(5, .b false)] 400 [1, 3, 4, 43] [100] ⟨[(1, (.ptr 100 0)), (3, (.d t4 x8)), (4, (.d t2 x9)), (43, (.d t4 false))], [(100, (.box 24 (.vcons (.d t23 x10) .vnil)))]⟩ (aC hb0 aN) ?_
    refine Run.cd false (fun hb => (by cases hb)) (fun hb => ?_)
    refine Run.kp (s' := ⟨[(3, (.d t4 x8))], []⟩) [3] [] ?_
    refine Run.ex 0 ?_
    obtain rfl := sI h
    exact ⟨rfl, by kernel_rfl⟩

def f11_l2_post (x16 : Int × Int × Int × Int × Int × Int × (List (Int × Int × Int × Int × Int)) × Int) : (Bool) → Ex → St → Prop
 | o, x, s => x = .out 0 ∧ s = ⟨[(3, (.d t4 o))], []⟩

def f11_l2_b (x16 : Int × Int × Int × Int × Int × Int × (List (Int × Int × Int × Int × Int)) × Int) (again : Bool × Int → Option (Bool)) : Bool × Int → Option (Bool)
 | (x14, x15) =>
 (bif (decide (x15 < (ofN (List.length x16.2.2.2.2.2.2.1)))) then
 (bif x14 then
 gd (0 ≤ x15) <|
 gd (x15 < ((List.length x16.2.2.2.2.2.2.1 : Nat) : Int)) <|
 (F28 (List.getD x16.2.2.2.2.2.2.1 (toN x15) ((0 : Int), (0 : Int), (0 : Int), (0 : Int), (0 : Int))).1 (List.getD x16.2.2.2.2.2.2.1 (toN x15) ((0 : Int), (0 : Int), (0 : Int), (0 : Int), (0 : Int))).2.1 (List.getD x16.2.2.2.2.2.2.1 (toN x15) ((0 : Int), (0 : Int), (0 : Int), (0 : Int), (0 : Int))).2.2.1 (List.getD x16.2.2.2.2.2.2.1 (toN x15) ((0 : Int), (0 : Int), (0 : Int), (0 : Int), (0 : Int))).2.2.2.1).bind fun y18 =>
 (bif y18 then
 (F29 (List.getD x16.2.2.2.2.2.2.1 (toN x15) ((0 : Int), (0 : Int), (0 : Int), (0 : Int), (0 : Int))).2.2.2.2 (max2i (wrapI .i64 ((wrapI .i64 (0 - x16.2.2.2.2.1)) - x16.2.2.2.2.2.1)) (-10000000 : Int))).bind fun y19 =>
 (bif y19 then
 again ((decide ((List.getD x16.2.2.2.2.2.2.1 (toN x15) ((0 : Int), (0 : Int), (0 : Int), (0 : Int), (0 : Int))).2.2.2.2 < x16.2.2.2.2.2.2.2)), (wrapI .i64 (x15 + (1 : Int))))
 else
 again (false, (wrapI .i64 (x15 + (1 : Int)))))
 else
 again (false, (wrapI .i64 (x15 + (1 : Int)))))
 else
 some x14)
 else
 some x14)

def f11_l2 (x16 : Int × Int × Int × Int × Int × Int × (List (Int × Int × Int × Int × Int)) × Int) : Nat → Bool × Int → Option (Bool) := loopF (f11_l2_b x16)

theorem f11_l2_ok (x16 : Int × Int × Int × Int × Int × Int × (List (Int × Int × Int × Int × Int)) × Int) (k : Nat) (x14 : Bool) (x15 : Int) {out : (Bool)} (h : f11_l2 x16 k (x14, x15) = some out) : Run Pg 81 (bk1 (sq2 (sq1 (sq2 (sq2 c_11))))) ⟨[(1, (.ptr 100 0)), (3, (.d t4 x14)), (4, (.d t2 x15))], [(100, (.box 24 (.vcons (.d t23 x16) .vnil)))]⟩ (f11_l2_post x16 out) := by
  refine Run.loopN (by kernel_rfl) (fun m s => ∃ x14 x15, s = ⟨[(1, (.ptr 100 0)), (3, (.d t4 x14)), (4, (.d t2 x15))], [(100, (.box 24 (.vcons (.d t23 x16) .vnil)))]⟩ ∧ f11_l2 x16 m (x14, x15) = some out) ?_ k ⟨x14, x15,  rfl, h⟩
  rintro m s ⟨x14, x15,  rfl, h⟩
  cases m with
  | zero => cases h
  | succ m =>
  replace h : f11_l2_b x16 (f11_l2 x16 m) (x14, x15) = some out := h
  unfold f11_l2_b at h
  refine Run.sq ?_
  rcases bif_elim h with ⟨hb0, h⟩ | ⟨hb0, h⟩
  · refine Run.rN hX [(5, .b true)] 400 [1, 3, 4, 43] [100] ⟨[(1, (.ptr 100 0)), (3, (.d t4 x14)), (4, (.d t2 x15)), (43, (.d t4 x14))], [(100, (.box 24 (.vcons (.d t23 x16) .vnil)))]⟩ (aC hb0 aN) ?_
    refine Run.cd x14 (fun hb => ?_) (fun hb => ?_)
    · replace h := bif_t h hb
      refine Run.sk ?_
      show Run Pg 81 _ _ _
      refine Run.sq ?_
      refine Run.bl 1 ?_
      obtain ⟨g_0, h⟩ := gd_elim h
      obtain ⟨g_1, h⟩ := gd_elim h
      refine Run.rN hX [] 600 [1, 4, 5] [100, 605] ⟨[(1, (.ptr 100 0)), (4, (.d t2 x15)), (5, (.ptr 605 0))], [(100, (.box 24 (.vcons (.d t23 x16) .vnil))), (605, (.box 57 (.vcons (.d t56 (List.getD x16.2.2.2.2.2.2.1 (toN x15) ((0 : Int), (0 : Int), (0 : Int), (0 : Int), (0 : Int)))) .vnil)))]⟩ (aC g_0 (aC g_1 aN)) ?_
      obtain ⟨y18, h_y18, h⟩ := bnd_elim h
      rcases bif_elim h with ⟨hb1, h⟩ | ⟨hb1, h⟩
      · obtain ⟨y19, h_y19, h⟩ := bnd_elim h
        rcases bif_elim h with ⟨hb3, h⟩ | ⟨hb3, h⟩
        · refine Run.rE hX [(8, .call (.d t4 y18)), (9, .b true), (19, .call (.d t4 y19)), (21, .b true)] 700 [1, 3, 4] [100] ⟨[(1, (.ptr 100 0)), (3, (.d t4 (decide ((List.getD x16.2.2.2.2.2.2.1 (toN x15) ((0 : Int), (0 : Int), (0 : Int), (0 : Int), (0 : Int))).2.2.2.2 < x16.2.2.2.2.2.2.2)))), (4, (.d t2 x15))], [(100, (.box 24 (.vcons (.d t23 x16) .vnil)))]⟩ (aC (c28 h_y18) (aC hb1 (aC (c29 h_y19) (aC hb3 aN)))) ?_
          show Run Pg 81 _ _ _
          refine Run.rE hX [] 500 [1, 3, 4] [100] ⟨[(1, (.ptr 100 0)), (3, (.d t4 (decide ((List.getD x16.2.2.2.2.2.2.1 (toN x15) ((0 : Int), (0 : Int), (0 : Int), (0 : Int), (0 : Int))).2.2.2.2 < x16.2.2.2.2.2.2.2)))), (4, (.d t2 (wrapI .i64 (x15 + (1 : Int)))))], [(100, (.box 24 (.vcons (.d t23 x16) .vnil)))]⟩ aN ?_
          exact ⟨m, Nat.lt_succ_self m, _, _, rfl, h⟩
        · refine Run.rE hX [(8, .call (.d t4 y18)), (9, .b true), (19, .call (.d t4 y19)), (21, .b false)] 700 [1, 3, 4] [100] ⟨[(1, (.ptr 100 0)), (3, (.d t4 false)), (4, (.d t2 x15))], [(100, (.box 24 (.vcons (.d t23 x16) .vnil)))]⟩ (aC (c28 h_y18) (aC hb1 (aC (c29 h_y19) (aC hb3 aN)))) ?_
          show Run Pg 81 _ _ _
          refine Run.rE hX [] 500 [1, 3, 4] [100] ⟨[(1, (.ptr 100 0)), (3, (.d t4 false)), (4, (.d t2 (wrapI .i64 (x15 + (1 : Int)))))], [(100, (.box 24 (.vcons (.d t23 x16) .vnil)))]⟩ aN ?_
          exact ⟨m, Nat.lt_succ_self m, _, _, rfl, h⟩
      · refine Run.rE hX [(8, .call (.d t4 y18)), (9, .b false)] 700 [1, 3, 4] [100] ⟨[(1, (.ptr 100 0)), (3, (.d t4 false)), (4, (.d t2 x15))], [(100, (.box 24 (.vcons (.d t23 x16) .vnil)))]⟩ (aC (c28 h_y18) (aC hb1 aN)) ?_
        show Run Pg 81 _ _ _
        refine Run.rE hX [] 500 [1, 3, 4] [100] ⟨[(1, (.ptr 100 0)), (3, (.d t4 false)), (4, (.d t2 (wrapI .i64 (x15 + (1 : Int)))))], [(100, (.box 24 (.vcons (.d t23 x16) .vnil)))]⟩ aN ?_
        exact ⟨m, Nat.lt_succ_self m, _, _, rfl, h⟩
    · replace h := bif_f h hb
      refine Run.kp (s' := ⟨[(3, (.d t4 x14))], []⟩) [3] [] ?_
      refine Run.ex 0 ?_
      obtain rfl := sI h
      exact ⟨rfl, by kernel_rfl⟩
  · refine Run.rN hX [(5, .b false)] 400 [1, 3, 4, 43] [100] ⟨[(1, (.ptr 100 0)), (3, (.d t4 x14)), (4, (.d t2 x15)), (43, (.d t4 false))], [(100, (.box 24 (.vcons (.d t23 x16) .vnil)))]⟩ (aC hb0 aN) ?_
    refine Run.cd false (fun hb => (by cases hb)) (fun hb => ?_)
    refine Run.kp (s' := ⟨[(3, (.d t4 x14))], []⟩) [3] [] ?_
    refine Run.ex 0 ?_
    obtain rfl := sI h
    exact ⟨rfl, by kernel_rfl⟩

def f11_l3_post (x22 : Int × Int × Int × Int × Int × Int × (List (Int × Int × Int × Int × Int)) × Int) : (Bool) → Ex → St → Prop
 | o, x, s => x = .out 0 ∧ s = ⟨[(3, (.d t4 o))], []⟩

def f11_l3_b (x22 : Int × Int × Int × Int × Int × Int × (List (Int × Int × Int × Int × Int)) × Int) (again : Bool × Int → Option (Bool)) : Bool × Int → Option (Bool)
 | (x20, x21) =>
 (bif (decide (x21 < (ofN (List.length x22.2.2.2.2.2.2.1)))) then
 (bif x20 then
 gd (0 ≤ x21) <|
 gd (x21 < ((List.length x22.2.2.2.2.2.2.1 : Nat) : Int)) <|
 (F28 (List.getD x22.2.2.2.2.2.2.1 (toN x21) ((0 : Int), (0 : Int), (0 : Int), (0 : Int), (0 : Int))).1 (List.getD x22.2.2.2.2.2.2.1 (toN x21) ((0 : Int), (0 : Int), (0 : Int), (0 : Int), (0 : Int))).2.1 (List.getD x22.2.2.2.2.2.2.1 (toN x21) ((0 : Int), (0 : Int), (0 : Int), (0 : Int), (0 : Int))).2.2.1 (List.getD x22.2.2.2.2.2.2.1 (toN x21) ((0 : Int), (0 : Int), (0 : Int), (0 : Int), (0 : Int))).2.2.2.1).bind fun y24 =>
 (bif y24 then
 (F29 (List.getD x22.2.2.2.2.2.2.1 (toN x21) ((0 : Int), (0 : Int), (0 : Int), (0 : Int), (0 : Int))).2.2.2.2 (max2i (wrapI .i64 ((wrapI .i64 (0 - x22.2.2.2.2.1)) - x22.2.2.2.2.2.1)) (-10000000 : Int))).bind fun y25 =>
 (bif y25 then
 again ((decide ((List.getD x22.2.2.2.2.2.2.1 (toN x21) ((0 : Int), (0 : Int), (0 : Int), (0 : Int), (0 : Int))).2.2.2.2 < x22.2.2.2.2.2.2.2)), (wrapI .i64 (x21 + (1 : Int))))
 else
 again (false, (wrapI .i64 (x21 + (1 : Int)))))
 else
 again (false, (wrapI .i64 (x21 + (1 : Int)))))
 else
 some x20)
 else
 some x20)

def f11_l3 (x22 : Int × Int × Int × Int × Int × Int × (List (Int × Int × Int × Int × Int)) × Int) : Nat → Bool × Int → Option (Bool) := loopF (f11_l3_b x22)

theorem f11_l3_ok (x22 : Int × Int × Int × Int × Int × Int × (List (Int × Int × Int × Int × Int)) × Int) (k : Nat) (x20 : Bool) (x21 : Int) {out : (Bool)} (h : f11_l3 x22 k (x20, x21) = some out) : Run Pg 81 (bk1 (sq2 (sq1 (sq2 (sq2 c_11))))) ⟨[(1, (.ptr 100 0)), (3, (.d t4 x20)), (4, (.d t2 x21))], [(100, (.box 24 (.vcons (.d t23 x22) .vnil)))]⟩ (f11_l3_post x22 out) := by
  refine Run.loopN (by kernel_rfl) (fun m s => ∃ x20 x21, s = ⟨[(1, (.ptr 100 0)), (3, (.d t4 x20)), (4, (.d t2 x21))], [(100, (.box 24 (.vcons (.d t23 x22) .vnil)))]⟩ ∧ f11_l3 x22 m (x20, x21) = some out) ?_ k ⟨x20, x21,  rfl, h⟩
  rintro m s ⟨x20, x21,  rfl, h⟩
  cases m with
  | zero => cases h
  | succ m =>
  replace h : f11_l3_b x22 (f11_l3 x22 m) (x20, x21) = some out := h
  unfold f11_l3_b at h
  refine Run.sq ?_
  rcases bif_elim h with ⟨hb0, h⟩ | ⟨hb0, h⟩
  · refine Run.rN hX [(5, .b true)] 400 [1, 3, 4, 43] [100] ⟨[(1, (.ptr 100 0)), (3, (.d t4 x20)), (4, (.d t2 x21)), (43, (.d t4 x20))], [(100, (.box 24 (.vcons (.d t23 x22) .vnil)))]⟩ (aC hb0 aN) ?_
    refine Run.cd x20 (fun hb => ?_) (fun hb => ?_)
    · replace h := bif_t h hb
      refine Run.sk ?_
      show Run Pg 81 _ _ _
      refine Run.sq ?_
      refine Run.bl 1 ?_
      obtain ⟨g_0, h⟩ := gd_elim h
      obtain ⟨g_1, h⟩ := gd_elim h
      refine Run.rN hX [] 600 [1, 4, 5] [100, 605] ⟨[(1, (.ptr 100 0)), (4, (.d t2 x21)), (5, (.ptr 605 0))], [(100, (.box 24 (.vcons (.d t23 x22) .vnil))), (605, (.box 57 (.vcons (.d t56 (List.getD x22.2.2.2.2.2.2.1 (toN x21) ((0 : Int), (0 : Int), (0 : Int), (0 : Int), (0 : Int)))) .vnil)))]⟩ (aC g_0 (aC g_1 aN)) ?_
      obtain ⟨y24, h_y24, h⟩ := bnd_elim h
      rcases bif_elim h with ⟨hb1, h⟩ | ⟨hb1, h⟩
      · obtain ⟨y25, h_y25, h⟩ := bnd_elim h
        rcases bif_elim h with ⟨hb3, h⟩ | ⟨hb3, h⟩
        · refine Run.rE hX [(8, .call (.d t4 y24)), (9, .b true), (19, .call (.d t4 y25)), (21, .b true)] 700 [1, 3, 4] [100] ⟨[(1, (.ptr 100 0)), (3, (.d t4 (decide ((List.getD x22.2.2.2.2.2.2.1 (toN x21) ((0 : Int), (0 : Int), (0 : Int), (0 : Int), (0 : Int))).2.2.2.2 < x22.2.2.2.2.2.2.2)))), (4, (.d t2 x21))], [(100, (.box 24 (.vcons (.d t23 x22) .vnil)))]⟩ (aC (c28 h_y24) (aC hb1 (aC (c29 h_y25) (aC hb3 aN)))) ?_
          show Run Pg 81 _ _ _
          refine Run.rE hX [] 500 [1, 3, 4] [100] ⟨[(1, (.ptr 100 0)), (3, (.d t4 (decide ((List.getD x22.2.2.2.2.2.2.1 (toN x21) ((0 : Int), (0 : Int), (0 : Int), (0 : Int), (0 : Int))).2.2.2.2 < x22.2.2.2.2.2.2.2)))), (4, (.d t2 (wrapI .i64 (x21 + (1 : Int)))))], [(100, (.box 24 (.vcons (.d t23 x22) .vnil)))]⟩ aN ?_
          exact ⟨m, Nat.lt_succ_self m, _, _, rfl, h⟩
        · refine Run.rE hX [(8, .call (.d t4 y24)), (9, .b true), (19, .call (.d t4 y25)), (21, .b false)] 700 [1, 3, 4] [100] ⟨[(1, (.ptr 100 0)), (3, (.d t4 false)), (4, (.d t2 x21))], [(100, (.box 24 (.vcons (.d t23 x22) .vnil)))]⟩ (aC (c28 h_y24) (aC hb1 (aC (c29 h_y25) (aC hb3 aN)))) ?_
          show Run Pg 81 _ _ _
          refine Run.rE hX [] 500 [1, 3, 4] [100] ⟨[(1, (.ptr 100 0)), (3, (.d t4 false)), (4, (.d t2 (wrapI .i64 (x21 + (1 : Int)))))], [(100, (.box 24 (.vcons (.d t23 x22) .vnil)))]⟩ aN ?_
          exact ⟨m, Nat.lt_succ_self m, _, _, rfl, h⟩
      · refine Run.rE hX [(8, .call (.d t4 y24)), (9, .b false)] 700 [1, 3, 4] [100] ⟨[(1, (.ptr 100 0)), (3, (.d t4 false)), (4, (.d t2 x21))], [(100, (.box 24 (.vcons (.d t23 x22) .vnil)))]⟩ (aC (c28 h_y24) (aC hb1 aN)) ?_
        show Run Pg 81 _ _ _
        refine Run.rE hX [] 500 [1, 3, 4] [100] ⟨[(1, (.ptr 100 0)), (3, (.d t4 false)), (4, (.d t2 (wrapI .i64 (x21 + (1 : Int)))))], [(100, (.box 24 (.vcons (.d t23 x22) .vnil)))]⟩ aN ?_
        exact ⟨m, Nat.lt_succ_self m, _, _, rfl, h⟩
    · replace h := bif_f h hb
      refine Run.kp (s' := ⟨[(3, (.d t4 x20))], []⟩) [3] [] ?_
      refine Run.ex 0 ?_
      obtain rfl := sI h
      exact ⟨rfl, by kernel_rfl⟩
  · refine Run.rN hX [(5, .b false)] 400 [1, 3, 4, 43] [100] ⟨[(1, (.ptr 100 0)), (3, (.d t4 x20)), (4, (.d t2 x21)), (43, (.d t4 false))], [(100, (.box 24 (.vcons (.d t23 x22) .vnil)))]⟩ (aC hb0 aN) ?_
    refine Run.cd false (fun hb => (by cases hb)) (fun hb => ?_)
    refine Run.kp (s' := ⟨[(3, (.d t4 x20))], []⟩) [3] [] ?_
    refine Run.ex 0 ?_
    obtain rfl := sI h
    exact ⟨rfl, by kernel_rfl⟩

def f11_l4_post (x28 : Int × Int × Int × Int × Int × Int × (List (Int × Int × Int × Int × Int)) × Int) : (Bool) → Ex → St → Prop
 | o, x, s => x = .out 0 ∧ s = ⟨[(3, (.d t4 o))], []⟩

def f11_l4_b (x28 : Int × Int × Int × Int × Int × Int × (List (Int × Int × Int × Int × Int)) × Int) (again : Bool × Int → Option (Bool)) : Bool × Int → Option (Bool)
 | (x26, x27) =>
 (bif (decide (x27 < (ofN (List.length x28.2.2.2.2.2.2.1)))) then
 (bif x26 then
 gd (0 ≤ x27) <|
 gd (x27 < ((List.length x28.2.2.2.2.2.2.1 : Nat) : Int)) <|
 (F28 (List.getD x28.2.2.2.2.2.2.1 (toN x27) ((0 : Int), (0 : Int), (0 : Int), (0 : Int), (0 : Int))).1 (List.getD x28.2.2.2.2.2.2.1 (toN x27) ((0 : Int), (0 : Int), (0 : Int), (0 : Int), (0 : Int))).2.1 (List.getD x28.2.2.2.2.2.2.1 (toN x27) ((0 : Int), (0 : Int), (0 : Int), (0 : Int), (0 : Int))).2.2.1 (List.getD x28.2.2.2.2.2.2.1 (toN x27) ((0 : Int), (0 : Int), (0 : Int), (0 : Int), (0 : Int))).2.2.2.1).bind fun y30 =>
 (bif y30 then
 (F29 (List.getD x28.2.2.2.2.2.2.1 (toN x27) ((0 : Int), (0 : Int), (0 : Int), (0 : Int), (0 : Int))).2.2.2.2 (max2i (wrapI .i64 ((wrapI .i64 (0 - x28.2.2.2.2.1)) - x28.2.2.2.2.2.1)) (-10000000 : Int))).bind fun y31 =>
 (bif y31 then
 again ((decide ((List.getD x28.2.2.2.2.2.2.1 (toN x27) ((0 : Int), (0 : Int), (0 : Int), (0 : Int), (0 : Int))).2.2.2.2 < x28.2.2.2.2.2.2.2)), (wrapI .i64 (x27 + (1 : Int))))
 else
 again (false, (wrapI .i64 (x27 + (1 : Int)))))
 else
 again (false, (wrapI .i64 (x27 + (1 : Int)))))
 else
 some x26)
 else
 some x26)

def f11_l4 (x28 : Int × Int × Int × Int × Int × Int × (List (Int × Int × Int × Int × Int)) × Int) : Nat → Bool × Int → Option (Bool) := loopF (f11_l4_b x28)

theorem f11_l4_ok (x28 : Int × Int × Int × Int × Int × Int × (List (Int × Int × Int × Int × Int)) × Int) (k : Nat) (x26 : Bool) (x27 : Int) {out : (Bool)} (h : f11_l4 x28 k (x26, x27) = some out) : Run Pg 81 (bk1 (sq2 (sq1 (sq2 (sq2 c_11))))) ⟨[(1, (.ptr 100 0)), (3, (.d t4 x26)), (4, (.d t2 x27))], [(100, (.box 24 (.vcons (.d t23 x28) .vnil)))]⟩ (f11_l4_post x28 out) := by
  refine Run.loopN (by kernel_rfl) (fun m s => ∃ x26 x27, s = ⟨[(1, (.ptr 100 0)), (3, (.d t4 x26)), (4, (.d t2 x27))], [(100, (.box 24 (.vcons (.d t23 x28) .vnil)))]⟩ ∧ f11_l4 x28 m (x26, x27) = some out) ?_ k ⟨x26, x27,  rfl, h⟩
  rintro m s ⟨x26, x27,  rfl, h⟩
  cases m with
  | zero => cases h
  | succ m =>
  replace h : f11_l4_b x28 (f11_l4 x28 m) (x26, x27) = some out := h
  unfold f11_l4_b at h
  refine Run.sq ?_
  rcases bif_elim h with ⟨hb0, h⟩ | ⟨hb0, h⟩
  · refine Run.rN hX [(5, .b true)] 400 [1, 3, 4, 43] [100] ⟨[(1, (.ptr 100 0)), (3, (.d t4 x26)), (4, (.d t2 x27)), (43, (.d t4 x26))], [(100, (.box 24 (.vcons (.d t23 x28) .vnil)))]⟩ (aC hb0 aN) ?_
    refine Run.cd x26 (fun hb => ?_) (fun hb => ?_)
    · replace h := bif_t h hb
      refine Run.sk ?_
      show Run Pg 81 _ _ _
      refine Run.sq ?_
      refine Run.bl 1 ?_
      obtain ⟨g_0, h⟩ := gd_elim h
      obtain ⟨g_1, h⟩ := gd_elim h
      refine Run.rN hX [] 600 [1, 4, 5] [100, 605] ⟨[(1, (.ptr 100 0)), (4, (.d t2 x27)), (5, (.ptr 605 0))], [(100, (.box 24 (.vcons (.d t23 x28) .vnil))), (605, (.box 57 (.vcons (.d t56 (List.getD x28.2.2.2.2.2.2.1 (toN x27) ((0 : Int), (0 : Int), (0 : Int), (0 : Int), (0 : Int)))) .vnil)))]⟩ (aC g_0 (aC g_1 aN)) ?_
      obtain ⟨y30, h_y30, h⟩ := bnd_elim h
      rcases bif_elim h with ⟨hb1, h⟩ | ⟨hb1, h⟩
      · obtain ⟨y31, h_y31, h⟩ := bnd_elim h
        rcases bif_elim h with ⟨hb3, h⟩ | ⟨hb3, h⟩
        · refine Run.rE hX [(8, .call (.d t4 y30)), (9, .b true), (19, .call (.d t4 y31)), (21, .b true)] 700 [1, 3, 4] [100] ⟨[(1, (.ptr 100 0)), (3, (.d t4 (decide ((List.getD x28.2.2.2.2.2.2.1 (toN x27) ((0 : Int), (0 : Int), (0 : Int), (0 : Int), (0 : Int))).2.2.2.2 < x28.2.2.2.2.2.2.2)))), (4, (.d t2 x27))], [(100, (.box 24 (.vcons (.d t23 x28) .vnil)))]⟩ (aC (c28 h_y30) (aC hb1 (aC (c29 h_y31) (aC hb3 aN)))) ?_
          show Run Pg 81 _ _ _
          refine Run.rE hX [] 500 [1, 3, 4] [100] ⟨[(1, (.ptr 100 0)), (3, (.d t4 (decide ((List.getD x28.2.2.2.2.2.2.1 (toN x27) ((0 : Int), (0 : Int), (0 : Int), (0 : Int), (0 : Int))).2.2.2.2 < x28.2.2.2.2.2.2.2)))), (4, (.d t2 (wrapI .i64 (x27 + (1 : Int)))))], [(100, (.box 24 (.vcons (.d t23 x28) .vnil)))]⟩ aN ?_
          exact ⟨m, Nat.lt_succ_self m, _, _, rfl, h⟩
        · refine Run.rE hX [(8, .call (.d t4 y30)), (9, .b true), (19, .call (.d t4 y31)), (21, .b false)] 700 [1, 3, 4] [100] ⟨[(1, (.ptr 100 0)), (3, (.d t4 false)), (4, (.d t2 x27))], [(100, (.box 24 (.vcons (.d t23 x28) .vnil)))]⟩ (aC (c28 h_y30) (aC hb1 (aC (c29 h_y31) (aC hb3 aN)))) ?_
          show Run Pg 81 _ _ _
          refine Run.rE hX [] 500 [1, 3, 4] [100] ⟨[(1, (.ptr 100 0)), (3, (.d t4 false)), (4, (.d t2 (wrapI .i64 (x27 + (1 : Int)))))], [(100, (.box 24 (.vcons (.d t23 x28) .vnil)))]⟩ aN ?_
          exact ⟨m, Nat.lt_succ_self m, _, _, rfl, h⟩
      · refine Run.rE hX [(8, .call (.d t4 y30)), (9, .b false)] 700 [1, 3, 4] [100] ⟨[(1, (.ptr 100 0)), (3, (.d t4 false)), (4, (.d t2 x27))], [(100, (.box 24 (.vcons (.d t23 x28) .vnil)))]⟩ (aC (c28 h_y30) (aC hb1 aN)) ?_
        show Run Pg 81 _ _ _
        refine Run.rE hX [] 500 [1, 3, 4] [100] ⟨[(1, (.ptr 100 0)), (3, (.d t4 false)), (4, (.d t2 (wrapI .i64 (x27 + (1 : Int)))))], [(100, (.box 24 (.vcons (.d t23 x28) .vnil)))]⟩ aN ?_
        exact ⟨m, Nat.lt_succ_self m, _, _, rfl, h⟩
    · replace h := bif_f h hb
      refine Run.kp (s' := ⟨[(3, (.d t4 x26))], []⟩) [3] [] ?_
      refine Run.ex 0 ?_
      obtain rfl := sI h
      exact ⟨rfl, by kernel_rfl⟩
  · refine Run.rN hX [(5, .b false)] 400 [1, 3, 4, 43] [100] ⟨[(1, (.ptr 100 0)), (3, (.d t4 x26)), (4, (.d t2 x27)), (43, (.d t4 false))], [(100, (.box 24 (.vcons (.d t23 x28) .vnil)))]⟩ (aC hb0 aN) ?_
    refine Run.cd false (fun hb => (by cases hb)) (fun hb => ?_)
    refine Run.kp (s' := ⟨[(3, (.d t4 x26))], []⟩) [3] [] ?_
    refine Run.ex 0 ?_
    obtain rfl := sI h
    exact ⟨rfl, by kernel_rfl⟩

def F11 (a0 : Int × Int × Int × Int × Int × Int × (List (Int × Int × Int × Int × Int)) × Int) : Option (Int) :=
 (F28 a0.1 a0.2.1 a0.2.2.1 a0.2.2.2.1).bind fun y1 =>
 (bif y1 then
 (F29 a0.2.2.2.2.1 (1 : Int)).bind fun y2 =>
 (bif y2 then
 (F29 a0.2.2.2.2.2.1 (0 : Int)).bind fun y3 =>
 (bif y3 then
 (bif (decide ((ofN (List.length a0.2.2.2.2.2.2.1)) ≤ (50 : Int))) then
 (F29 a0.2.2.2.2.2.2.2 (1 : Int)).bind fun y4 =>
 ((f11_l0 a0 (2 + List.length a0.2.2.2.2.2.2.1) (y4, (0 : Int))).bind fun o7 =>
 (bif (!o7) then
 some (1 : Int)
 else
 some (0 : Int)))
 else
 ((f11_l1 a0 (2 + List.length a0.2.2.2.2.2.2.1) (false, (0 : Int))).bind fun o13 =>
 (bif (!o13) then
 some (1 : Int)
 else
 some (0 : Int))))
 else
 ((f11_l2 a0 (2 + List.length a0.2.2.2.2.2.2.1) (false, (0 : Int))).bind fun o19 =>
 (bif (!o19) then
 some (1 : Int)
 else
 some (0 : Int))))
 else
 ((f11_l3 a0 (2 + List.length a0.2.2.2.2.2.2.1) (false, (0 : Int))).bind fun o25 =>
 (bif (!o25) then
 some (1 : Int)
 else
 some (0 : Int))))
 else
 ((f11_l4 a0 (2 + List.length a0.2.2.2.2.2.2.1) (false, (0 : Int))).bind fun o31 =>
 (bif (!o31) then
 some (1 : Int)
 else
 some (0 : Int))))

theorem c11 {a0 : Int × Int × Int × Int × Int × Int × (List (Int × Int × Int × Int × Int)) × Int} {r : Int} (h : F11 a0 = some r) : CallPure Pg 11 [(.d t23 a0)] (.d t2 r) := by
  refine callPureN hX c_11 81 [.tmp 2] [26] Go.Proofs.Tryz.func11 (by kernel_rfl) (by kernel_rfl) (by kernel_rfl) (Nat.le_of_ble_eq_true rfl) rfl rfl ?_
  show Run Pg 81 c_11 ⟨[(0, (.d t23 a0))], []⟩ (fin11 r)
  unfold F11 at h
  refine Run.rN hX [] 100 [1] [100] ⟨[(1, (.ptr 100 0))], [(100, (.box 24 (.vcons (.d t23 a0) .vnil)))]⟩ aN ?_
  obtain ⟨y1, h_y1, h⟩ := bnd_elim h
  rcases bif_elim h with ⟨hb1, h⟩ | ⟨hb1, h⟩
  · obtain ⟨y2, h_y2, h⟩ := bnd_elim h
    rcases bif_elim h with ⟨hb3, h⟩ | ⟨hb3, h⟩
    · obtain ⟨y3, h_y3, h⟩ := bnd_elim h
      rcases bif_elim h with ⟨hb5, h⟩ | ⟨hb5, h⟩
      · rcases bif_elim h with ⟨hb6, h⟩ | ⟨hb6, h⟩
        · obtain ⟨y4, h_y4, h⟩ := bnd_elim h
          refine Run.rN hX [(8, .call (.d t4 y1)), (9, .b true), (12, .call (.d t4 y2)), (14, .b true), (17, .call (.d t4 y3)), (19, .b true), (25, .b true), (28, .call (.d t4 y4))] 200 [1, 3] [100] ⟨[(1, (.ptr 100 0)), (3, (.d t4 y4))], [(100, (.box 24 (.vcons (.d t23 a0) .vnil)))]⟩ (aC (c28 h_y1) (aC hb1 (aC (c29 h_y2) (aC hb3 (aC (c29 h_y3) (aC hb5 (aC hb6 (aC (c29 h_y4) aN)))))))) ?_
          refine Run.sq ?_
          refine Run.rN hX [] 300 [1, 3, 4] [100] ⟨[(1, (.ptr 100 0)), (3, (.d t4 y4)), (4, (.d t2 (0 : Int)))], [(100, (.box 24 (.vcons (.d t23 a0) .vnil)))]⟩ aN ?_
          refine Run.bl 0 ?_
          obtain ⟨o7, h_o7, h⟩ := bnd_elim h
          refine Run.mono (f11_l0_ok a0 _ y4 (0 : Int) h_o7) ?_
          rintro _ _ ⟨rfl, rfl⟩
          show Run Pg 81 _ _ _
          refine Run.sq ?_
          refine Run.rN hX [] 800 [80] [] ⟨[(80, (.d t4 (!o7)))], []⟩ aN ?_
          refine Run.cd (!o7) (fun hb => ?_) (fun hb => ?_)
          · replace h := bif_t h hb
            refine Run.rN hX [] 900 [2] [] ⟨[(2, (.d t2 (1 : Int)))], []⟩ aN ?_
            refine Run.rt ?_
            obtain rfl := sI h
            exact ⟨[(.d t2 (1 : Int))], by kernel_rfl, by kernel_rfl⟩
          · replace h := bif_f h hb
            refine Run.sk ?_
            show Run Pg 81 _ _ _
            refine Run.rN hX [] 1000 [2] [] ⟨[(2, (.d t2 (0 : Int)))], []⟩ aN ?_
            refine Run.rt ?_
            obtain rfl := sI h
            exact ⟨[(.d t2 (0 : Int))], by kernel_rfl, by kernel_rfl⟩
        · refine Run.rN hX [(8, .call (.d t4 y1)), (9, .b true), (12, .call (.d t4 y2)), (14, .b true), (17, .call (.d t4 y3)), (19, .b true), (25, .b false)] 200 [1, 3] [100] ⟨[(1, (.ptr 100 0)), (3, (.d t4 false))], [(100, (.box 24 (.vcons (.d t23 a0) .vnil)))]⟩ (aC (c28 h_y1) (aC hb1 (aC (c29 h_y2) (aC hb3 (aC (c29 h_y3) (aC hb5 (aC hb6 aN))))))) ?_
          refine Run.sq ?_
          refine Run.rN hX [] 300 [1, 3, 4] [100] ⟨[(1, (.ptr 100 0)), (3, (.d t4 false)), (4, (.d t2 (0 : Int)))], [(100, (.box 24 (.vcons (.d t23 a0) .vnil)))]⟩ aN ?_
          refine Run.bl 0 ?_
          obtain ⟨o13, h_o13, h⟩ := bnd_elim h
          refine Run.mono (f11_l1_ok a0 _ false (0 : Int) h_o13) ?_
          rintro _ _ ⟨rfl, rfl⟩
          show Run Pg 81 _ _ _
          refine Run.sq ?_
          refine Run.rN hX [] 800 [80] [] ⟨[(80, (.d t4 (!o13)))], []⟩ aN ?_
          refine Run.cd (!o13) (fun hb => ?_) (fun hb => ?_)
          · replace h := bif_t h hb
            refine Run.rN hX [] 900 [2] [] ⟨[(2, (.d t2 (1 : Int)))], []⟩ aN ?_
            refine Run.rt ?_
            obtain rfl := sI h
            exact ⟨[(.d t2 (1 : Int))], by kernel_rfl, by kernel_rfl⟩
          · replace h := bif_f h hb
            refine Run.sk ?_
            show Run Pg 81 _ _ _
            refine Run.rN hX [] 1000 [2] [] ⟨[(2, (.d t2 (0 : Int)))], []⟩ aN ?_
            refine Run.rt ?_
            obtain rfl := sI h
            exact ⟨[(.d t2 (0 : Int))], by kernel_rfl, by kernel_rfl⟩
      · refine Run.rN hX [(8, .call (.d t4 y1)), (9, .b true), (12, .call (.d t4 y2)), (14, .b true), (17, .call (.d t4 y3)), (19, .b false)] 200 [1, 3] [100] ⟨[(1, (.ptr 100 0)), (3, (.d t4 false))], [(100, (.box 24 (.vcons (.d t23 a0) .vnil)))]⟩ (aC (c28 h_y1) (aC hb1 (aC (c29 h_y2) (aC hb3 (aC (c29 h_y3) (aC hb5 aN)))))) ?_
        refine Run.sq ?_
        refine Run.rN hX [] 300 [1, 3, 4] [100] ⟨[(1, (.ptr 100 0)), (3, (.d t4 false)), (4, (.d t2 (0 : Int)))], [(100, (.box 24 (.vcons (.d t23 a0) .vnil)))]⟩ aN ?_
        refine Run.bl 0 ?_
        obtain ⟨o19, h_o19, h⟩ := bnd_elim h
        refine Run.mono (f11_l2_ok a0 _ false (0 : Int) h_o19) ?_
        rintro _ _ ⟨rfl, rfl⟩
        show Run Pg 81 _ _ _
        refine Run.sq ?_
        refine Run.rN hX [] 800 [80] [] ⟨[(80, (.d t4 (!o19)))], []⟩ aN ?_
        refine Run.cd (!o19) (fun hb => ?_) (fun hb => ?_)
        · replace h := bif_t h hb
          refine Run.rN hX [] 900 [2] [] ⟨[(2, (.d t2 (1 : Int)))], []⟩ aN ?_
          refine Run.rt ?_
          obtain rfl := sI h
          exact ⟨[(.d t2 (1 : Int))], by kernel_rfl, by kernel_rfl⟩
        · replace h := bif_f h hb
          refine Run.sk ?_
          show Run Pg 81 _ _ _
          refine Run.rN hX [] 1000 [2] [] ⟨[(2, (.d t2 (0 : Int)))], []⟩ aN ?_
          refine Run.rt ?_
          obtain rfl := sI h
          exact ⟨[(.d t2 (0 : Int))], by kernel_rfl, by kernel_rfl⟩
    · refine Run.rN hX [(8, .call (.d t4 y1)), (9, .b true), (12, .call (.d t4 y2)), (14, .b false)] 200 [1, 3] [100] ⟨[(1, (.ptr 100 0)), (3, (.d t4 false))], [(100, (.box 24 (.vcons (.d t23 a0) .vnil)))]⟩ (aC (c28 h_y1) (aC hb1 (aC (c29 h_y2) (aC hb3 aN)))) ?_
      refine Run.sq ?_
      refine Run.rN hX [] 300 [1, 3, 4] [100] ⟨[(1, (.ptr 100 0)), (3, (.d t4 false)), (4, (.d t2 (0 : Int)))], [(100, (.box 24 (.vcons (.d t23 a0) .vnil)))]⟩ aN ?_
      refine Run.bl 0 ?_
      obtain ⟨o25, h_o25, h⟩ := bnd_elim h
      refine Run.mono (f11_l3_ok a0 _ false (0 : Int) h_o25) ?_
      rintro _ _ ⟨rfl, rfl⟩
      show Run Pg 81 _ _ _
      refine Run.sq ?_
      refine Run.rN hX [] 800 [80] [] ⟨[(80, (.d t4 (!o25)))], []⟩ aN ?_
      refine Run.cd (!o25) (fun hb => ?_) (fun hb => ?_)
      · replace h := bif_t h hb
        refine Run.rN hX [] 900 [2] [] ⟨[(2, (.d t2 (1 : Int)))], []⟩ aN ?_
        refine Run.rt ?_
        obtain rfl := sI h
        exact ⟨[(.d t2 (1 : Int))], by kernel_rfl, by kernel_rfl⟩
      · replace h := bif_f h hb
        refine Run.sk ?_
        show Run Pg 81 _ _ _
        refine Run.rN hX [] 1000 [2] [] ⟨[(2, (.d t2 (0 : Int)))], []⟩ aN ?_
        refine Run.rt ?_
        obtain rfl := sI h
        exact ⟨[(.d t2 (0 : Int))], by kernel_rfl, by kernel_rfl⟩
  · refine Run.rN hX [(8, .call (.d t4 y1)), (9, .b false)] 200 [1, 3] [100] ⟨[(1, (.ptr 100 0)), (3, (.d t4 false))], [(100, (.box 24 (.vcons (.d t23 a0) .vnil)))]⟩ (aC (c28 h_y1) (aC hb1 aN)) ?_
    refine Run.sq ?_
    refine Run.rN hX [] 300 [1, 3, 4] [100] ⟨[(1, (.ptr 100 0)), (3, (.d t4 false)), (4, (.d t2 (0 : Int)))], [(100, (.box 24 (.vcons (.d t23 a0) .vnil)))]⟩ aN ?_
    refine Run.bl 0 ?_
    obtain ⟨o31, h_o31, h⟩ := bnd_elim h
    refine Run.mono (f11_l4_ok a0 _ false (0 : Int) h_o31) ?_
    rintro _ _ ⟨rfl, rfl⟩
    show Run Pg 81 _ _ _
    refine Run.sq ?_
    refine Run.rN hX [] 800 [80] [] ⟨[(80, (.d t4 (!o31)))], []⟩ aN ?_
    refine Run.cd (!o31) (fun hb => ?_) (fun hb => ?_)
    · replace h := bif_t h hb
      refine Run.rN hX [] 900 [2] [] ⟨[(2, (.d t2 (1 : Int)))], []⟩ aN ?_
      refine Run.rt ?_
      obtain rfl := sI h
      exact ⟨[(.d t2 (1 : Int))], by kernel_rfl, by kernel_rfl⟩
    · replace h := bif_f h hb
      refine Run.sk ?_
      show Run Pg 81 _ _ _
      refine Run.rN hX [] 1000 [2] [] ⟨[(2, (.d t2 (0 : Int)))], []⟩ aN ?_
      refine Run.rt ?_
      obtain rfl := sI h
      exact ⟨[(.d t2 (0 : Int))], by kernel_rfl, by kernel_rfl⟩

/-! ## f15 -/

noncomputable def c_15 : Code := body0 Go.Proofs.Tryz.f15

def fin15 (r : Bool) : Ex → St → Prop := endK X0 [.tmp 2] [4] (.d t4 r)

def F15 (a0 : Int × Int × Int × Int × Int × Int × (List (Int × Int × Int × Int × Int)) × Int) : Option (Bool) :=
 (bif (decide ((ofN (List.length a0.2.2.2.2.2.2.1)) ≤ (4 : Int))) then
 (F11 a0).bind fun y1 =>
 some (y1 == (0 : Int))
 else
 some false)

theorem c15 {a0 : Int × Int × Int × Int × Int × Int × (List (Int × Int × Int × Int × Int)) × Int} {r : Bool} (h : F15 a0 = some r) : CallPure Pg 15 [(.d t23 a0)] (.d t4 r) := by
  refine callPureN hX c_15 12 [.tmp 2] [4] Go.Proofs.Tryz.func15 (by kernel_rfl) (by kernel_rfl) (by kernel_rfl) (Nat.le_of_ble_eq_true rfl) rfl rfl ?_
  show Run Pg 12 c_15 ⟨[(0, (.d t23 a0))], []⟩ (fin15 r)
  unfold F15 at h
  refine Run.rN hX [] 100 [1] [100] ⟨[(1, (.ptr 100 0))], [(100, (.box 24 (.vcons (.d t23 a0) .vnil)))]⟩ aN ?_
  rcases bif_elim h with ⟨hb0, h⟩ | ⟨hb0, h⟩
  · obtain ⟨y1, h_y1, h⟩ := bnd_elim h
    refine Run.rN hX [(4, .b true), (6, .call (.d t2 y1))] 200 [2] [] ⟨[(2, (.d t4 (y1 == (0 : Int))))], []⟩ (aC hb0 (aC (c11 h_y1) aN)) ?_
    refine Run.rt ?_
    obtain rfl := sI h
    exact ⟨[(.d t4 (y1 == (0 : Int)))], by kernel_rfl, by kernel_rfl⟩
  · refine Run.rN hX [(4, .b false)] 200 [2] [] ⟨[(2, (.d t4 false))], []⟩ (aC hb0 aN) ?_
    refine Run.rt ?_
    obtain rfl := sI h
    exact ⟨[(.d t4 false)], by kernel_rfl, by kernel_rfl⟩

/-! ## f16 -/

noncomputable def c_16 : Code := body0 Go.Proofs.Tryz.f16

def fin16 (r : (List Int)) : Ex → St → Prop := endK X0 [.tmp 4] [39] (.d t39 r)

def f16_c1_post (x13 : Int) (x14 : Int) (x15 : List (Int × Int × Int × Int × Int)) (x16 : Int) (x17 : Bool) (x18 : List Int) : ((List Int)) → Ex → St → Prop
 | o, x, s => x = .nrm ∧ s = ⟨[(1, (.d t2 x13)), (5, (.vec 90005 t2)), (9, (.d t22 x15)), (10, (.d t2 x16)), (11, (.d t2 x14))], [(90005, (.vec 3 t2 o))]⟩

def f16_c1 (x14 : Int) (x17 : Bool) (x18 : List Int) : Option ((List Int)) :=
 (bif x17 then
 gd (List.length (x18 ++ ([x14] : List Int)) ≤ 1073741824) <|
 some (x18 ++ ([x14] : List Int))
 else
 some x18)

theorem f16_c1_ok (x13 : Int) (x14 : Int) (x15 : List (Int × Int × Int × Int × Int)) (x16 : Int) (x17 : Bool) (x18 : List Int) {out : ((List Int))} (h : f16_c1 x14 x17 x18 = some out) : Run Pg 26 (sq2 (sq2 (bk1 (sq1 (sq2 (sq2 (lp1 (bk1 (sq2 (sq1 (sq2 (sq2 c_16)))))))))))) ⟨[(1, (.d t2 x13)), (5, (.vec 90005 t2)), (6, (.d t2 x14)), (9, (.d t22 x15)), (10, (.d t2 x16)), (11, (.d t2 x14)), (19, (.d t4 x17))], [(90005, (.vec 3 t2 x18))]⟩ (f16_c1_post x13 x14 x15 x16 x17 x18 out) := by
  unfold f16_c1 at h
  refine Run.cd x17 (fun hb => ?_) (fun hb => ?_)
  · replace h := bif_t h hb
    obtain ⟨g_0, h⟩ := gd_elim h
    refine Run.rE hX [] 700 [1, 5, 9, 10, 11] [90005] ⟨[(1, (.d t2 x13)), (5, (.vec 90005 t2)), (9, (.d t22 x15)), (10, (.d t2 x16)), (11, (.d t2 x14))], [(90005, (.vec 3 t2 (x18 ++ ([x14] : List Int))))]⟩ (aC g_0 aN) ?_
    obtain rfl := sI h
    exact ⟨rfl, by kernel_rfl⟩
  · replace h := bif_f h hb
    refine Run.kp (s' := ⟨[(1, (.d t2 x13)), (5, (.vec 90005 t2)), (9, (.d t22 x15)), (10, (.d t2 x16)), (11, (.d t2 x14))], [(90005, (.vec 3 t2 x18))]⟩) [1, 5, 9, 10, 11] [90005] ?_
    refine Run.sk ?_
    obtain rfl := sI h
    exact ⟨rfl, by kernel_rfl⟩

def f16_l0_post (x1 : Int) (x2 : List (Int × Int × Int × Int × Int)) (x3 : Int) : ((List Int)) → Ex → St → Prop
 | o, x, s => x = .out 0 ∧ s = ⟨[(5, (.vec 90005 t2))], [(90005, (.vec 3 t2 o))]⟩

def f16_l0_b (x1 : Int) (x2 : List (Int × Int × Int × Int × Int)) (x3 : Int) (again : Int × (List Int) → Option ((List Int))) : Int × (List Int) → Option ((List Int))
 | (x4, x5) =>
 (bif (decide (x4 < x3)) then
 gd (0 ≤ x4) <|
 gd (x4 < ((List.length x2 : Nat) : Int)) <|
 ((f16_c1 x4 (decide (x1 < (List.getD x2 (toN x4) ((0 : Int), (0 : Int), (0 : Int), (0 : Int), (0 : Int))).2.2.2.2)) x5).bind fun o19 =>
 again ((wrapI .i64 (x4 + (1 : Int))), o19))
 else
 some x5)

def f16_l0 (x1 : Int) (x2 : List (Int × Int × Int × Int × Int)) (x3 : Int) : Nat → Int × (List Int) → Option ((List Int)) := loopF (f16_l0_b x1 x2 x3)

theorem f16_l0_ok (x1 : Int) (x2 : List (Int × Int × Int × Int × Int)) (x3 : Int) (k : Nat) (x4 : Int) (x5 : List Int) {out : ((List Int))} (h : f16_l0 x1 x2 x3 k (x4, x5) = some out) : Run Pg 26 (bk1 (sq2 (sq1 (sq2 (sq2 c_16))))) ⟨[(1, (.d t2 x1)), (5, (.vec 90005 t2)), (9, (.d t22 x2)), (10, (.d t2 x3)), (11, (.d t2 x4))], [(90005, (.vec 3 t2 x5))]⟩ (f16_l0_post x1 x2 x3 out) := by
  refine Run.loopN (by kernel_rfl) (fun m s => ∃ x4 x5, s = ⟨[(1, (.d t2 x1)), (5, (.vec 90005 t2)), (9, (.d t22 x2)), (10, (.d t2 x3)), (11, (.d t2 x4))], [(90005, (.vec 3 t2 x5))]⟩ ∧ f16_l0 x1 x2 x3 m (x4, x5) = some out) ?_ k ⟨x4, x5,  rfl, h⟩
  rintro m s ⟨x4, x5,  rfl, h⟩
  cases m with
  | zero => cases h
  | succ m =>
  replace h : f16_l0_b x1 x2 x3 (f16_l0 x1 x2 x3 m) (x4, x5) = some out := h
  unfold f16_l0_b at h
  refine Run.rN hX [] 400 [1, 5, 9, 10, 11, 12] [90005] ⟨[(1, (.d t2 x1)), (5, (.vec 90005 t2)), (9, (.d t22 x2)), (10, (.d t2 x3)), (11, (.d t2 x4)), (12, (.d t4 (decide (x4 < x3))))], [(90005, (.vec 3 t2 x5))]⟩ aN ?_
  refine Run.sq ?_
  refine Run.cd (decide (x4 < x3)) (fun hb => ?_) (fun hb => ?_)
  · replace h := bif_t h hb
    refine Run.sk ?_
    show Run Pg 26 _ _ _
    refine Run.sq ?_
    refine Run.bl 1 ?_
    obtain ⟨g_0, h⟩ := gd_elim h
    obtain ⟨g_1, h⟩ := gd_elim h
    refine Run.rN hX [] 500 [1, 5, 6, 7, 9, 10, 11] [503, 90005] ⟨[(1, (.d t2 x1)), (5, (.vec 90005 t2)), (6, (.d t2 x4)), (7, (.ptr 503 0)), (9, (.d t22 x2)), (10, (.d t2 x3)), (11, (.d t2 x4))], [(503, (.box 57 (.vcons (.d t56 (List.getD x2 (toN x4) ((0 : Int), (0 : Int), (0 : Int), (0 : Int), (0 : Int)))) .vnil))), (90005, (.vec 3 t2 x5))]⟩ (aC g_0 (aC g_1 aN)) ?_
    refine Run.rN hX [] 600 [1, 5, 6, 9, 10, 11, 19] [90005] ⟨[(1, (.d t2 x1)), (5, (.vec 90005 t2)), (6, (.d t2 x4)), (9, (.d t22 x2)), (10, (.d t2 x3)), (11, (.d t2 x4)), (19, (.d t4 (decide (x1 < (List.getD x2 (toN x4) ((0 : Int), (0 : Int), (0 : Int), (0 : Int), (0 : Int))).2.2.2.2))))], [(90005, (.vec 3 t2 x5))]⟩ aN ?_
    obtain ⟨o19, h_o19, h⟩ := bnd_elim h
    refine Run.mono (f16_c1_ok x1 x4 x2 x3 (decide (x1 < (List.getD x2 (toN x4) ((0 : Int), (0 : Int), (0 : Int), (0 : Int), (0 : Int))).2.2.2.2)) x5 h_o19) ?_
    rintro _ _ ⟨rfl, rfl⟩
    show Run Pg 26 _ _ _
    refine Run.rE hX [] 800 [1, 5, 9, 10, 11] [90005] ⟨[(1, (.d t2 x1)), (5, (.vec 90005 t2)), (9, (.d t22 x2)), (10, (.d t2 x3)), (11, (.d t2 (wrapI .i64 (x4 + (1 : Int)))))], [(90005, (.vec 3 t2 o19))]⟩ aN ?_
    exact ⟨m, Nat.lt_succ_self m, _, _, rfl, h⟩
  · replace h := bif_f h hb
    refine Run.kp (s' := ⟨[(5, (.vec 90005 t2))], [(90005, (.vec 3 t2 x5))]⟩) [5] [90005] ?_
    refine Run.ex 0 ?_
    obtain rfl := sI h
    exact ⟨rfl, by kernel_rfl⟩

def F16 (a0 : Int × Int × Int × Int × Int × Int × (List (Int × Int × Int × Int × Int)) × Int) (a1 : Int) : Option ((List Int)) :=
 ((f16_l0 a1 a0.2.2.2.2.2.2.1 (ofN (List.length a0.2.2.2.2.2.2.1)) (2 + List.length a0.2.2.2.2.2.2.1 + List.length ([] : List Int)) ((0 : Int), ([] : List Int))).bind fun o20 =>
 some o20)

theorem c16 {a0 : Int × Int × Int × Int × Int × Int × (List (Int × Int × Int × Int × Int)) × Int} {a1 : Int} {r : (List Int)} (h : F16 a0 a1 = some r) : CallPure Pg 16 [(.d t23 a0), (.d t2 a1)] (.d t39 r) := by
  refine callPureN hX c_16 26 [.tmp 4] [39] Go.Proofs.Tryz.func16 (by kernel_rfl) (by kernel_rfl) (by kernel_rfl) (Nat.le_of_ble_eq_true rfl) rfl rfl ?_
  show Run Pg 26 c_16 ⟨[(0, (.d t23 a0)), (1, (.d t2 a1))], []⟩ (fin16 r)
  unfold F16 at h
  refine Run.rN hX [] 100 [1, 2] [100] ⟨[(1, (.d t2 a1)), (2, (.ptr 100 0))], [(100, (.box 24 (.vcons (.d t23 a0) .vnil)))]⟩ aN ?_
  refine Run.rN hX [] 200 [1, 2, 5] [100] ⟨[(1, (.d t2 a1)), (2, (.ptr 100 0)), (5, .nil)], [(100, (.box 24 (.vcons (.d t23 a0) .vnil)))]⟩ aN ?_
  refine Run.sq ?_
  refine Run.rN hX [] 300 [1, 5, 9, 10, 11] [] ⟨[(1, (.d t2 a1)), (5, .nil), (9, (.d t22 a0.2.2.2.2.2.2.1)), (10, (.d t2 (ofN (List.length a0.2.2.2.2.2.2.1)))), (11, (.d t2 (0 : Int)))], []⟩ aN ?_
  refine Run.bl 0 ?_
  refine Run.name (s' := ⟨[(5, (.vec 90005 t2)), (1, (.d t2 a1)), (5, .nil), (9, (.d t22 a0.2.2.2.2.2.2.1)), (10, (.d t2 (ofN (List.length a0.2.2.2.2.2.2.1)))), (11, (.d t2 (0 : Int)))], [(90005, (.vec 3 t2 []))]⟩) 5 90005 3 t2 (by kernel_rfl) ?_
  refine Run.kp (s' := ⟨[(1, (.d t2 a1)), (5, (.vec 90005 t2)), (9, (.d t22 a0.2.2.2.2.2.2.1)), (10, (.d t2 (ofN (List.length a0.2.2.2.2.2.2.1)))), (11, (.d t2 (0 : Int)))], [(90005, (.vec 3 t2 ([] : List Int)))]⟩) [1, 5, 9, 10, 11] [90005] ?_
  obtain ⟨o20, h_o20, h⟩ := bnd_elim h
  refine Run.mono (f16_l0_ok a1 a0.2.2.2.2.2.2.1 (ofN (List.length a0.2.2.2.2.2.2.1)) _ (0 : Int) ([] : List Int) h_o20) ?_
  rintro _ _ ⟨rfl, rfl⟩
  show Run Pg 26 _ _ _
  refine Run.rN hX [] 900 [4] [90005] ⟨[(4, (.vec 90005 t2))], [(90005, (.vec 3 t2 o20))]⟩ aN ?_
  refine Run.freeze (s' := ⟨[(4, (.d t39 o20))], []⟩) 90005 (by kernel_rfl) ?_
  refine Run.rt ?_
  obtain rfl := sI h
  exact ⟨[(.d t39 o20)], by kernel_rfl, by kernel_rfl⟩

/-! ## f17 -/

noncomputable def c_17 : Code := body0 Go.Proofs.Tryz.f17

def fin17 (r : (List Int)) : Ex → St → Prop := endK X0 [.tmp 4] [39] (.d t39 r)

def f17_c1_post (x11 : Int) (x12 : Int) (x13 : Bool) (x14 : Int × Int × Int × Int × Int × Int × (List (Int × Int × Int × Int × Int)) × Int) (x15 : List Int) : ((List Int)) → Ex → St → Prop
 | o, x, s => x = .nrm ∧ s = ⟨[(1, (.d t2 x11)), (2, (.ptr 100 0)), (5, (.vec 90005 t2)), (6, (.d t2 x12))], [(100, (.box 24 (.vcons (.d t23 x14) .vnil))), (90005, (.vec 3 t2 o))]⟩

def f17_c1 (x12 : Int) (x13 : Bool) (x15 : List Int) : Option ((List Int)) :=
 (bif x13 then
 gd (List.length (x15 ++ ([x12] : List Int)) ≤ 1073741824) <|
 some (x15 ++ ([x12] : List Int))
 else
 some x15)

theorem f17_c1_ok (x11 : Int) (x12 : Int) (x13 : Bool) (x14 : Int × Int × Int × Int × Int × Int × (List (Int × Int × Int × Int × Int)) × Int) (x15 : List Int) {out : ((List Int))} (h : f17_c1 x12 x13 x15 = some out) : Run Pg 27 (sq2 (bk1 (sq1 (sq2 (lp1 (bk1 (sq2 (sq1 (sq2 (sq2 c_17)))))))))) ⟨[(1, (.d t2 x11)), (2, (.ptr 100 0)), (5, (.vec 90005 t2)), (6, (.d t2 x12)), (21, (.d t4 x13))], [(100, (.box 24 (.vcons (.d t23 x14) .vnil))), (90005, (.vec 3 t2 x15))]⟩ (f17_c1_post x11 x12 x13 x14 x15 out) := by
  unfold f17_c1 at h
  refine Run.cd x13 (fun hb => ?_) (fun hb => ?_)
  · replace h := bif_t h hb
    obtain ⟨g_0, h⟩ := gd_elim h
    refine Run.rE hX [] 700 [1, 2, 5, 6] [100, 90005] ⟨[(1, (.d t2 x11)), (2, (.ptr 100 0)), (5, (.vec 90005 t2)), (6, (.d t2 x12))], [(100, (.box 24 (.vcons (.d t23 x14) .vnil))), (90005, (.vec 3 t2 (x15 ++ ([x12] : List Int))))]⟩ (aC g_0 aN) ?_
    obtain rfl := sI h
    exact ⟨rfl, by kernel_rfl⟩
  · replace h := bif_f h hb
    refine Run.kp (s' := ⟨[(1, (.d t2 x11)), (2, (.ptr 100 0)), (5, (.vec 90005 t2)), (6, (.d t2 x12))], [(100, (.box 24 (.vcons (.d t23 x14) .vnil))), (90005, (.vec 3 t2 x15))]⟩) [1, 2, 5, 6] [100, 90005] ?_
    refine Run.sk ?_
    obtain rfl := sI h
    exact ⟨rfl, by kernel_rfl⟩

def f17_l0_post (x1 : Int) (x3 : Int × Int × Int × Int × Int × Int × (List (Int × Int × Int × Int × Int)) × Int) : ((List Int)) → Ex → St → Prop
 | o, x, s => x = .out 0 ∧ s = ⟨[(5, (.vec 90005 t2))], [(90005, (.vec 3 t2 o))]⟩

def f17_l0_b (x1 : Int) (x3 : Int × Int × Int × Int × Int × Int × (List (Int × Int × Int × Int × Int)) × Int) (again : Int × (List Int) → Option ((List Int))) : Int × (List Int) → Option ((List Int))
 | (x2, x4) =>
 (bif (decide (x2 < (ofN (List.length x3.2.2.2.2.2.2.1)))) then
 gd (0 ≤ x2) <|
 gd (x2 < ((List.length x3.2.2.2.2.2.2.1 : Nat) : Int)) <|
 ((f17_c1 x2 (decide (x1 < (List.getD x3.2.2.2.2.2.2.1 (toN x2) ((0 : Int), (0 : Int), (0 : Int), (0 : Int), (0 : Int))).2.2.2.2)) x4).bind fun o16 =>
 again ((wrapI .i64 (x2 + (1 : Int))), o16))
 else
 some x4)

def f17_l0 (x1 : Int) (x3 : Int × Int × Int × Int × Int × Int × (List (Int × Int × Int × Int × Int)) × Int) : Nat → Int × (List Int) → Option ((List Int)) := loopF (f17_l0_b x1 x3)

theorem f17_l0_ok (x1 : Int) (x3 : Int × Int × Int × Int × Int × Int × (List (Int × Int × Int × Int × Int)) × Int) (k : Nat) (x2 : Int) (x4 : List Int) {out : ((List Int))} (h : f17_l0 x1 x3 k (x2, x4) = some out) : Run Pg 27 (bk1 (sq2 (sq1 (sq2 (sq2 c_17))))) ⟨[(1, (.d t2 x1)), (2, (.ptr 100 0)), (5, (.vec 90005 t2)), (6, (.d t2 x2))], [(100, (.box 24 (.vcons (.d t23 x3) .vnil))), (90005, (.vec 3 t2 x4))]⟩ (f17_l0_post x1 x3 out) := by
  refine Run.loopN (by kernel_rfl) (fun m s => ∃ x2 x4, s = ⟨[(1, (.d t2 x1)), (2, (.ptr 100 0)), (5, (.vec 90005 t2)), (6, (.d t2 x2))], [(100, (.box 24 (.vcons (.d t23 x3) .vnil))), (90005, (.vec 3 t2 x4))]⟩ ∧ f17_l0 x1 x3 m (x2, x4) = some out) ?_ k ⟨x2, x4,  rfl, h⟩
  rintro m s ⟨x2, x4,  rfl, h⟩
  cases m with
  | zero => cases h
  | succ m =>
  replace h : f17_l0_b x1 x3 (f17_l0 x1 x3 m) (x2, x4) = some out := h
  unfold f17_l0_b at h
  refine Run.sq ?_
  refine Run.rN hX [] 400 [1, 2, 5, 6, 11] [100, 90005] ⟨[(1, (.d t2 x1)), (2, (.ptr 100 0)), (5, (.vec 90005 t2)), (6, (.d t2 x2)), (11, (.d t4 (decide (x2 < (ofN (List.length x3.2.2.2.2.2.2.1))))))], [(100, (.box 24 (.vcons (.d t23 x3) .vnil))), (90005, (.vec 3 t2 x4))]⟩ aN ?_
  refine Run.cd (decide (x2 < (ofN (List.length x3.2.2.2.2.2.2.1)))) (fun hb => ?_) (fun hb => ?_)
  · replace h := bif_t h hb
    refine Run.sk ?_
    show Run Pg 27 _ _ _
    refine Run.sq ?_
    refine Run.bl 1 ?_
    obtain ⟨g_0, h⟩ := gd_elim h
    obtain ⟨g_1, h⟩ := gd_elim h
    refine Run.rN hX [] 600 [1, 2, 5, 6, 21] [100, 90005] ⟨[(1, (.d t2 x1)), (2, (.ptr 100 0)), (5, (.vec 90005 t2)), (6, (.d t2 x2)), (21, (.d t4 (decide (x1 < (List.getD x3.2.2.2.2.2.2.1 (toN x2) ((0 : Int), (0 : Int), (0 : Int), (0 : Int), (0 : Int))).2.2.2.2))))], [(100, (.box 24 (.vcons (.d t23 x3) .vnil))), (90005, (.vec 3 t2 x4))]⟩ (aC g_0 (aC g_1 aN)) ?_
    obtain ⟨o16, h_o16, h⟩ := bnd_elim h
    refine Run.mono (f17_c1_ok x1 x2 (decide (x1 < (List.getD x3.2.2.2.2.2.2.1 (toN x2) ((0 : Int), (0 : Int), (0 : Int), (0 : Int), (0 : Int))).2.2.2.2)) x3 x4 h_o16) ?_
    rintro _ _ ⟨rfl, rfl⟩
    show Run Pg 27 _ _ _
    refine Run.rE hX [] 500 [1, 2, 5, 6] [100, 90005] ⟨[(1, (.d t2 x1)), (2, (.ptr 100 0)), (5, (.vec 90005 t2)), (6, (.d t2 (wrapI .i64 (x2 + (1 : Int)))))], [(100, (.box 24 (.vcons (.d t23 x3) .vnil))), (90005, (.vec 3 t2 o16))]⟩ aN ?_
    exact ⟨m, Nat.lt_succ_self m, _, _, rfl, h⟩
  · replace h := bif_f h hb
    refine Run.kp (s' := ⟨[(5, (.vec 90005 t2))], [(90005, (.vec 3 t2 x4))]⟩) [5] [90005] ?_
    refine Run.ex 0 ?_
    obtain rfl := sI h
    exact ⟨rfl, by kernel_rfl⟩

def F17 (a0 : Int × Int × Int × Int × Int × Int × (List (Int × Int × Int × Int × Int)) × Int) (a1 : Int) : Option ((List Int)) :=
 ((f17_l0 a1 a0 (2 + List.length a0.2.2.2.2.2.2.1 + List.length ([] : List Int)) ((0 : Int), ([] : List Int))).bind fun o17 =>
 some o17)

theorem c17 {a0 : Int × Int × Int × Int × Int × Int × (List (Int × Int × Int × Int × Int)) × Int} {a1 : Int} {r : (List Int)} (h : F17 a0 a1 = some r) : CallPure Pg 17 [(.d t23 a0), (.d t2 a1)] (.d t39 r) := by
  refine callPureN hX c_17 27 [.tmp 4] [39] Go.Proofs.Tryz.func17 (by kernel_rfl) (by kernel_rfl) (by kernel_rfl) (Nat.le_of_ble_eq_true rfl) rfl rfl ?_
  show Run Pg 27 c_17 ⟨[(0, (.d t23 a0)), (1, (.d t2 a1))], []⟩ (fin17 r)
  unfold F17 at h
  refine Run.rN hX [] 100 [1, 2] [100] ⟨[(1, (.d t2 a1)), (2, (.ptr 100 0))], [(100, (.box 24 (.vcons (.d t23 a0) .vnil)))]⟩ aN ?_
  refine Run.rN hX [] 200 [1, 2, 5] [100] ⟨[(1, (.d t2 a1)), (2, (.ptr 100 0)), (5, .nil)], [(100, (.box 24 (.vcons (.d t23 a0) .vnil)))]⟩ aN ?_
  refine Run.sq ?_
  refine Run.rN hX [] 300 [1, 2, 5, 6] [100] ⟨[(1, (.d t2 a1)), (2, (.ptr 100 0)), (5, .nil), (6, (.d t2 (0 : Int)))], [(100, (.box 24 (.vcons (.d t23 a0) .vnil)))]⟩ aN ?_
  refine Run.bl 0 ?_
  refine Run.name (s' := ⟨[(5, (.vec 90005 t2)), (1, (.d t2 a1)), (2, (.ptr 100 0)), (5, .nil), (6, (.d t2 (0 : Int)))], [(90005, (.vec 3 t2 [])), (100, (.box 24 (.vcons (.d t23 a0) .vnil)))]⟩) 5 90005 3 t2 (by kernel_rfl) ?_
  refine Run.kp (s' := ⟨[(1, (.d t2 a1)), (2, (.ptr 100 0)), (5, (.vec 90005 t2)), (6, (.d t2 (0 : Int)))], [(100, (.box 24 (.vcons (.d t23 a0) .vnil))), (90005, (.vec 3 t2 ([] : List Int)))]⟩) [1, 2, 5, 6] [100, 90005] ?_
  obtain ⟨o17, h_o17, h⟩ := bnd_elim h
  refine Run.mono (f17_l0_ok a1 a0 _ (0 : Int) ([] : List Int) h_o17) ?_
  rintro _ _ ⟨rfl, rfl⟩
  show Run Pg 27 _ _ _
  refine Run.rN hX [] 800 [4] [90005] ⟨[(4, (.vec 90005 t2))], [(90005, (.vec 3 t2 o17))]⟩ aN ?_
  refine Run.freeze (s' := ⟨[(4, (.d t39 o17))], []⟩) 90005 (by kernel_rfl) ?_
  refine Run.rt ?_
  obtain rfl := sI h
  exact ⟨[(.d t39 o17)], by kernel_rfl, by kernel_rfl⟩


end Go.Sw
