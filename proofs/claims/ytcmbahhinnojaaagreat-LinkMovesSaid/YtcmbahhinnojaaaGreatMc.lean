/- Each function of the code computes the Lean function of the same number wherever that has a value; no other conditions. -/
import Derived.Test.YtcmbahhinnojaaaGreatMb
namespace Go.Sw
open Go Go.Sw
set_option linter.unusedSimpArgs false
set_option linter.unusedVariables false

/-! ## f139 -/

noncomputable def c_139 : Code := body0 Go.Proofs.Tryz.f139

def fin139 (r : (List Int)) : Ex → St → Prop := endK X0 [.tmp 4] [83] (.d t83 r)

def f139_c1_post (x21 : List Int) (x22 : List Int) (x23 : Int) (x24 : Int) (x25 : Bool) (x26 : List Int) : (Int) → Ex → St → Prop
 | o, x, s => x = .nrm ∧ s = ⟨[(0, .d t83 x21), (1, .d t83 x22), (5, .vec 202 t127), (7, .d t2 x23), (8, .d t127 o)], [(202, .vec 127 t127 x26)]⟩

def f139_c1 (x22 : List Int) (x23 : Int) (x24 : Int) (x25 : Bool) : Option (Int) :=
 (bif x25 then
 gd (0 ≤ x23) <|
 gd (x23 < ((List.length x22 : Nat) : Int)) <|
 some (wrapI .u32 (x24 - (List.getD x22 (toN x23) (0 : Int))))
 else
 some x24)

theorem f139_c1_ok (x21 : List Int) (x22 : List Int) (x23 : Int) (x24 : Int) (x25 : Bool) (x26 : List Int) {out : (Int)} (h : f139_c1 x22 x23 x24 x25 = some out) : Run Pg 45 (sq2 (sq1 (sq2 (bk1 (sq1 (sq2 (lp1 (bk1 (sq2 (sq1 (sq2 (sq2 (sq2 c_139))))))))))))) ⟨[(0, .d t83 x21), (1, .d t83 x22), (5, .vec 202 t127), (7, .d t2 x23), (8, .d t127 x24), (28, .d t4 x25)], [(202, .vec 127 t127 x26)]⟩ (f139_c1_post x21 x22 x23 x24 x25 x26 out) := by
 unfold f139_c1 at h
 refine Run.cd x25 (fun hb => ?_) (fun hb => ?_)
 ·replace h := bif_t h hb
  obtain ⟨g_0, h⟩ := gd_elim h
  obtain ⟨g_1, h⟩ := gd_elim h
  refine qE [] 900 ⟨[(0, .d t83 x21), (1, .d t83 x22), (5, .vec 202 t127), (7, .d t2 x23), (8, .d t127 (wrapI .u32 (x24 - (List.getD x22 (toN x23) (0 : Int)))))], [(202, .vec 127 t127 x26)]⟩ (aC g_0 (aC g_1 aN)) ?_
  obtain rfl := sI h
  exact ⟨rfl, by kernel_rfl⟩
 ·replace h := bif_f h hb
  refine qK ⟨[(0, .d t83 x21), (1, .d t83 x22), (5, .vec 202 t127), (7, .d t2 x23), (8, .d t127 x24)], [(202, .vec 127 t127 x26)]⟩ ?_
  refine Run.sk ?_
  obtain rfl := sI h
  exact ⟨rfl, by kernel_rfl⟩

def f139_c2_post (x28 : List Int) (x29 : List Int) (x30 : Int) (x31 : Int) (x32 : Int) (x33 : Bool) (x34 : List Int) : (Int × Int) → Ex → St → Prop
 | o, x, s => x = .nrm ∧ s = ⟨[(0, .d t83 x28), (1, .d t83 x29), (5, .vec 202 t127), (6, .d t127 o.1), (7, .d t2 x31), (8, .d t127 o.2)], [(202, .vec 127 t127 x34)]⟩

def f139_c2 (x30 : Int) (x32 : Int) (x33 : Bool) : Option (Int × Int) :=
 (bif x33 then
 some ((0 : Int), (wrapI .u32 (x32 - (1000000000 : Int))))
 else
 some (x30, x32))

theorem f139_c2_ok (x28 : List Int) (x29 : List Int) (x30 : Int) (x31 : Int) (x32 : Int) (x33 : Bool) (x34 : List Int) {out : (Int × Int)} (h : f139_c2 x30 x32 x33 = some out) : Run Pg 45 (sq2 (sq1 (sq2 (sq2 (sq2 (bk1 (sq1 (sq2 (lp1 (bk1 (sq2 (sq1 (sq2 (sq2 (sq2 c_139))))))))))))))) ⟨[(0, .d t83 x28), (1, .d t83 x29), (5, .vec 202 t127), (6, .d t127 x30), (7, .d t2 x31), (8, .d t127 x32), (36, .d t4 x33)], [(202, .vec 127 t127 x34)]⟩ (f139_c2_post x28 x29 x30 x31 x32 x33 x34 out) := by
 unfold f139_c2 at h
 refine Run.cd x33 (fun hb => ?_) (fun hb => ?_)
 ·replace h := bif_t h hb
  refine qE [] 1200 ⟨[(0, .d t83 x28), (1, .d t83 x29), (5, .vec 202 t127), (6, .d t127 (0 : Int)), (7, .d t2 x31), (8, .d t127 (wrapI .u32 (x32 - (1000000000 : Int))))], [(202, .vec 127 t127 x34)]⟩ aN ?_
  obtain rfl := sI h
  exact ⟨rfl, by kernel_rfl⟩
 ·replace h := bif_f h hb
  refine qK ⟨[(0, .d t83 x28), (1, .d t83 x29), (5, .vec 202 t127), (6, .d t127 x30), (7, .d t2 x31), (8, .d t127 x32)], [(202, .vec 127 t127 x34)]⟩ ?_
  refine Run.sk ?_
  obtain rfl := sI h
  exact ⟨rfl, by kernel_rfl⟩

def f139_l0_post (x1 : List Int) (x2 : List Int) : ((List Int)) → Ex → St → Prop
 | o, x, s => x = .out 0 ∧ s = ⟨[(5, .vec 202 t127)], [(202, .vec 127 t127 o)]⟩

def f139_l0_b (x1 : List Int) (x2 : List Int) (again : Int × Int × (List Int) → Option ((List Int))) : Int × Int × (List Int) → Option ((List Int))
 | (x3, x4, x5) =>
 (bif (decide (x4 < (ofN (List.length x1)))) then
 gd (0 ≤ x4) <|
 gd (x4 < ((List.length x1 : Nat) : Int)) <|
 ((f139_c1 x2 x4 (wrapI .u32 ((wrapI .u32 ((List.getD x1 (toN x4) (0 : Int)) + (1000000000 : Int))) - x3)) (decide (x4 < (ofN (List.length x2))))).bind fun o27 =>
 ((f139_c2 (1 : Int) o27 (decide ((1000000000 : Int) ≤ o27))).bind fun o35 =>
 gd (0 ≤ x4) <|
 gd (x4 < ((List.length x5 : Nat) : Int)) <|
 gd ((toN x4) < List.length x5) <|
 again (o35.1, (wrapI .i64 (x4 + (1 : Int))), (List.set x5 (toN x4) o35.2))))
 else
 some x5)

def f139_l0 (x1 : List Int) (x2 : List Int) : Nat → Int × Int × (List Int) → Option ((List Int)) := loopF (f139_l0_b x1 x2)

theorem f139_l0_ok (x1 : List Int) (x2 : List Int) (k : Nat) (x3 : Int) (x4 : Int) (x5 : List Int) {out : ((List Int))} (h : f139_l0 x1 x2 k (x3, x4, x5) = some out) : Run Pg 45 (bk1 (sq2 (sq1 (sq2 (sq2 (sq2 c_139)))))) ⟨[(0, .d t83 x1), (1, .d t83 x2), (5, .vec 202 t127), (6, .d t127 x3), (7, .d t2 x4)], [(202, .vec 127 t127 x5)]⟩ (f139_l0_post x1 x2 out) := by
 refine Run.loopN (by kernel_rfl) (fun m s => ∃ x3 x4 x5, s = ⟨[(0, .d t83 x1), (1, .d t83 x2), (5, .vec 202 t127), (6, .d t127 x3), (7, .d t2 x4)], [(202, .vec 127 t127 x5)]⟩ ∧ f139_l0 x1 x2 m (x3, x4, x5) = some out) ?_ k ⟨x3, x4, x5,  rfl, h⟩
 rintro m s ⟨x3, x4, x5,  rfl, h⟩
 cases m with
 | zero => cases h
 | succ m =>
 replace h : f139_l0_b x1 x2 (f139_l0 x1 x2 m) (x3, x4, x5) = some out := h
 unfold f139_l0_b at h
 refine Run.sq ?_
 refine qN [] 500 ⟨[(0, .d t83 x1), (1, .d t83 x2), (5, .vec 202 t127), (6, .d t127 x3), (7, .d t2 x4), (15, .d t4 (decide (x4 < (ofN (List.length x1)))))], [(202, .vec 127 t127 x5)]⟩ aN ?_
 refine Run.cd (decide (x4 < (ofN (List.length x1)))) (fun hb => ?_) (fun hb => ?_)
 ·replace h := bif_t h hb
  refine Run.sk ?_
  show Run Pg 45 _ _ _
  refine Run.sq ?_
  refine Run.bl 1 ?_
  obtain ⟨g_0, h⟩ := gd_elim h
  obtain ⟨g_1, h⟩ := gd_elim h
  refine qN [] 700 ⟨[(0, .d t83 x1), (1, .d t83 x2), (5, .vec 202 t127), (7, .d t2 x4), (8, .d t127 (wrapI .u32 ((wrapI .u32 ((List.getD x1 (toN x4) (0 : Int)) + (1000000000 : Int))) - x3)))], [(202, .vec 127 t127 x5)]⟩ (aC g_0 (aC g_1 aN)) ?_
  refine Run.sq ?_
  refine qN [] 800 ⟨[(0, .d t83 x1), (1, .d t83 x2), (5, .vec 202 t127), (7, .d t2 x4), (8, .d t127 (wrapI .u32 ((wrapI .u32 ((List.getD x1 (toN x4) (0 : Int)) + (1000000000 : Int))) - x3))), (28, .d t4 (decide (x4 < (ofN (List.length x2)))))], [(202, .vec 127 t127 x5)]⟩ aN ?_
  obtain ⟨o27, h_o27, h⟩ := bnd_elim h
  refine Run.mono (f139_c1_ok x1 x2 x4 (wrapI .u32 ((wrapI .u32 ((List.getD x1 (toN x4) (0 : Int)) + (1000000000 : Int))) - x3)) (decide (x4 < (ofN (List.length x2)))) x5 h_o27) ?_
  rintro _ _ ⟨rfl, rfl⟩
  show Run Pg 45 _ _ _
  refine qN [] 1000 ⟨[(0, .d t83 x1), (1, .d t83 x2), (5, .vec 202 t127), (6, .d t127 (1 : Int)), (7, .d t2 x4), (8, .d t127 o27)], [(202, .vec 127 t127 x5)]⟩ aN ?_
  refine Run.sq ?_
  refine qN [] 1100 ⟨[(0, .d t83 x1), (1, .d t83 x2), (5, .vec 202 t127), (6, .d t127 (1 : Int)), (7, .d t2 x4), (8, .d t127 o27), (36, .d t4 (decide ((1000000000 : Int) ≤ o27)))], [(202, .vec 127 t127 x5)]⟩ aN ?_
  obtain ⟨o35, h_o35, h⟩ := bnd_elim h
  refine Run.mono (f139_c2_ok x1 x2 (1 : Int) x4 o27 (decide ((1000000000 : Int) ≤ o27)) x5 h_o35) ?_
  rintro _ _ ⟨rfl, rfl⟩
  show Run Pg 45 _ _ _
  obtain ⟨g_0, h⟩ := gd_elim h
  obtain ⟨g_1, h⟩ := gd_elim h
  obtain ⟨g_2, h⟩ := gd_elim h
  refine qE [] 1300 ⟨[(0, .d t83 x1), (1, .d t83 x2), (5, .vec 202 t127), (6, .d t127 o35.1), (7, .d t2 x4)], [(202, .vec 127 t127 (List.set x5 (toN x4) o35.2))]⟩ (aC g_0 (aC g_1 (aC g_2 aN))) ?_
  show Run Pg 45 _ _ _
  refine qE [] 600 ⟨[(0, .d t83 x1), (1, .d t83 x2), (5, .vec 202 t127), (6, .d t127 o35.1), (7, .d t2 (wrapI .i64 (x4 + (1 : Int))))], [(202, .vec 127 t127 (List.set x5 (toN x4) o35.2))]⟩ aN ?_
  exact ⟨m, Nat.lt_succ_self m, _, _, _, rfl, h⟩
 ·replace h := bif_f h hb
  refine qK ⟨[(5, .vec 202 t127)], [(202, .vec 127 t127 x5)]⟩ ?_
  refine Run.ex 0 ?_
  obtain rfl := sI h
  exact ⟨rfl, by kernel_rfl⟩

def F139 (a0 : List Int) (a1 : List Int) : Option ((List Int)) :=
 gd (0 ≤ (ofN (List.length a0))) <|
 gd ((ofN (List.length a0)) ≤ (ofN (List.length a0))) <|
 gd ((ofN (List.length a0)) ≤ 1073741824) <|
 ((f139_l0 a0 a1 (2 + List.length a0 + List.length a1 + List.length (List.replicate (toN (ofN (List.length a0))) (0 : Int))) ((0 : Int), (0 : Int), (List.replicate (toN (ofN (List.length a0))) (0 : Int)))).bind fun o36 =>
 (F103 o36).bind fun y37 =>
 some y37)

theorem c139 {a0 : List Int} {a1 : List Int} {r : (List Int)} (h : F139 a0 a1 = some r) : CallPure Pg 139 [(.d t83 a0), (.d t83 a1)] (.d t83 r) := by
 refine qC c_139 45 [.tmp 4] [83] Go.Proofs.Tryz.func139 ?_
 show Run Pg 45 c_139 ⟨[(0, .d t83 a0), (1, .d t83 a1)], []⟩ (fin139 r)
 unfold F139 at h
 refine qN [] 100 ⟨[(0, .d t83 a0), (1, .d t83 a1)], []⟩ aN ?_
 obtain ⟨g_0, h⟩ := gd_elim h
 obtain ⟨g_1, h⟩ := gd_elim h
 obtain ⟨g_2, h⟩ := gd_elim h
 refine qN [] 200 ⟨[(0, .d t83 a0), (1, .d t83 a1), (5, .vec 202 t127)], [(202, .vec 127 t127 (List.replicate (toN (ofN (List.length a0))) (0 : Int)))]⟩ (aC g_0 (aC g_1 (aC g_2 aN))) ?_
 refine qN [] 300 ⟨[(0, .d t83 a0), (1, .d t83 a1), (5, .vec 202 t127), (6, .d t127 (0 : Int))], [(202, .vec 127 t127 (List.replicate (toN (ofN (List.length a0))) (0 : Int)))]⟩ aN ?_
 refine Run.sq ?_
 refine qN [] 400 ⟨[(0, .d t83 a0), (1, .d t83 a1), (5, .vec 202 t127), (6, .d t127 (0 : Int)), (7, .d t2 (0 : Int))], [(202, .vec 127 t127 (List.replicate (toN (ofN (List.length a0))) (0 : Int)))]⟩ aN ?_
 refine Run.bl 0 ?_
 obtain ⟨o36, h_o36, h⟩ := bnd_elim h
 refine Run.mono (f139_l0_ok a0 a1 _ (0 : Int) (0 : Int) (List.replicate (toN (ofN (List.length a0))) (0 : Int)) h_o36) ?_
 rintro _ _ ⟨rfl, rfl⟩
 show Run Pg 45 _ _ _
 refine Run.freeze (s' := ⟨[(5, .d t83 o36)], []⟩) 202 (by kernel_rfl) ?_
 obtain ⟨y37, h_y37, h⟩ := bnd_elim h
 refine qN [(1, .call (.d t83 y37))] 1400 ⟨[(4, .d t83 y37)], []⟩ (aC (c103 h_y37) aN) ?_
 refine Run.rt ?_
 obtain rfl := sI h
 exact qR [(.d t83 y37)]

/-! ## f127 -/

noncomputable def c_127 : Code := body0 Go.Proofs.Tryz.f127

def fin127 (r : IntL) : Ex → St → Prop := endK X0 [.cell 4 85] [85] (.d t84 r)

def F127 (a0 : IntL) (a1 : IntL) : Option (IntL) :=
 (bif (a0.1 == a1.1) then
 (F140 a0.2 a1.2).bind fun y1 =>
 (F82 a0.1 y1).bind fun y2 =>
 some y2
 else
 (F81 a0.2 a1.2).bind fun y3 =>
 (bif (decide ((0 : Int) ≤ y3)) then
 (F139 a0.2 a1.2).bind fun y4 =>
 (F82 a0.1 y4).bind fun y5 =>
 some y5
 else
 (F139 a1.2 a0.2).bind fun y6 =>
 (F82 a1.1 y6).bind fun y7 =>
 some y7))

theorem c127 {a0 : IntL} {a1 : IntL} {r : IntL} (h : F127 a0 a1 = some r) : CallPure Pg 127 [(.d t84 a0), (.d t84 a1)] (.d t84 r) := by
 refine qC c_127 40 [.cell 4 85] [85] Go.Proofs.Tryz.func127 ?_
 show Run Pg 40 c_127 ⟨[(0, .d t84 a0), (1, .d t84 a1)], []⟩ (fin127 r)
 unfold F127 at h
 refine qN [] 100 ⟨[(2, .ptr 100 0), (3, .ptr 101 0), (4, .ptr 102 0)], [(100, bx t84 a0), (101, bx t84 a1), (102, bx t84 (false, ([] : List Int)))]⟩ aN ?_
 refine Run.sq ?_
 refine qN [] 200 ⟨[(2, .ptr 100 0), (3, .ptr 101 0), (4, .ptr 102 0), (9, .d t4 (a0.1 == a1.1))], [(100, bx t84 a0), (101, bx t84 a1), (102, bx t84 (false, ([] : List Int)))]⟩ aN ?_
 refine Run.cd (a0.1 == a1.1) (fun hb => ?_) (fun hb => ?_)
 ·replace h := bif_t h hb
  obtain ⟨y1, h_y1, h⟩ := bnd_elim h
  obtain ⟨y2, h_y2, h⟩ := bnd_elim h
  refine qN [(6, .call (.d t83 y1)), (7, .call (.d t84 y2))] 300 ⟨[(4, .ptr 102 0)], [(102, bx t84 y2)]⟩ (aC (c140 h_y1) (aC (c82 h_y2) aN)) ?_
  refine Run.rt ?_
  obtain rfl := sI h
  exact qR [(.d t84 y2)]
 ·replace h := bif_f h hb
  refine Run.sk ?_
  show Run Pg 40 _ _ _
  refine Run.sq ?_
  obtain ⟨y3, h_y3, h⟩ := bnd_elim h
  refine qN [(4, .call (.d t2 y3))] 400 ⟨[(2, .ptr 100 0), (3, .ptr 101 0), (4, .ptr 102 0), (23, .d t4 (decide ((0 : Int) ≤ y3)))], [(100, bx t84 a0), (101, bx t84 a1), (102, bx t84 (false, ([] : List Int)))]⟩ (aC (c81 h_y3) aN) ?_
  refine Run.cd (decide ((0 : Int) ≤ y3)) (fun hb => ?_) (fun hb => ?_)
  ·replace h := bif_t h hb
   obtain ⟨y4, h_y4, h⟩ := bnd_elim h
   obtain ⟨y5, h_y5, h⟩ := bnd_elim h
   refine qN [(6, .call (.d t83 y4)), (7, .call (.d t84 y5))] 500 ⟨[(4, .ptr 102 0)], [(102, bx t84 y5)]⟩ (aC (c139 h_y4) (aC (c82 h_y5) aN)) ?_
   refine Run.rt ?_
   obtain rfl := sI h
   exact qR [(.d t84 y5)]
  ·replace h := bif_f h hb
   refine Run.sk ?_
   show Run Pg 40 _ _ _
   obtain ⟨y6, h_y6, h⟩ := bnd_elim h
   obtain ⟨y7, h_y7, h⟩ := bnd_elim h
   refine qN [(6, .call (.d t83 y6)), (7, .call (.d t84 y7))] 600 ⟨[(4, .ptr 102 0)], [(102, bx t84 y7)]⟩ (aC (c139 h_y6) (aC (c82 h_y7) aN)) ?_
   refine Run.rt ?_
   obtain rfl := sI h
   exact qR [(.d t84 y7)]

/-! ## f110 -/

noncomputable def c_110 : Code := body0 Go.Proofs.Tryz.f110

def fin110 (r : Int) : Ex → St → Prop := endK X0 [.tmp 2] [3] (.d t2 r)

def F110 (a0 : IntL) : Option (Int) :=
 (bif ((ofN (List.length a0.2)) == (0 : Int)) then
 some (0 : Int)
 else
 (bif a0.1 then
 some (-1 : Int)
 else
 some (1 : Int)))

theorem c110 {a0 : IntL} {r : Int} (h : F110 a0 = some r) : CallPure Pg 110 [(.d t84 a0)] (.d t2 r) := by
 refine qC c_110 9 [.tmp 2] [3] Go.Proofs.Tryz.func110 ?_
 show Run Pg 9 c_110 ⟨[(0, .d t84 a0)], []⟩ (fin110 r)
 unfold F110 at h
 refine qN [] 100 ⟨[(1, .ptr 100 0)], [(100, bx t84 a0)]⟩ aN ?_
 refine Run.sq ?_
 refine qN [] 200 ⟨[(1, .ptr 100 0), (6, .d t4 ((ofN (List.length a0.2)) == (0 : Int)))], [(100, bx t84 a0)]⟩ aN ?_
 refine Run.cd ((ofN (List.length a0.2)) == (0 : Int)) (fun hb => ?_) (fun hb => ?_)
 ·replace h := bif_t h hb
  refine qN [] 300 ⟨[(2, .d t2 (0 : Int))], []⟩ aN ?_
  refine Run.rt ?_
  obtain rfl := sI h
  exact qR [(.d t2 (0 : Int))]
 ·replace h := bif_f h hb
  refine Run.sk ?_
  show Run Pg 9 _ _ _
  refine Run.sq ?_
  refine qN [] 400 ⟨[(8, .d t4 a0.1)], []⟩ aN ?_
  refine Run.cd a0.1 (fun hb => ?_) (fun hb => ?_)
  ·replace h := bif_t h hb
   refine qN [] 500 ⟨[(2, .d t2 (-1 : Int))], []⟩ aN ?_
   refine Run.rt ?_
   obtain rfl := sI h
   exact qR [(.d t2 (-1 : Int))]
  ·replace h := bif_f h hb
   refine Run.sk ?_
   show Run Pg 9 _ _ _
   refine qN [] 600 ⟨[(2, .d t2 (1 : Int))], []⟩ aN ?_
   refine Run.rt ?_
   obtain rfl := sI h
   exact qR [(.d t2 (1 : Int))]

/-! ## f125 -/

noncomputable def c_125 : Code := body0 Go.Proofs.Tryz.f125

def fin125 (r : Int) : Ex → St → Prop := endK X0 [.tmp 2] [121] (.d t12 r)

def f125_l0_post (x1 : List Int) : (Int) → Ex → St → Prop
 | o, x, s => x = .out 0 ∧ s = ⟨[(3, .d t12 o)], []⟩

def f125_l0_b (x1 : List Int) (again : Int × Int → Option (Int)) : Int × Int → Option (Int)
 | (x2, x3) =>
 (bif (decide ((0 : Int) ≤ x3)) then
 gd (0 ≤ x3) <|
 gd (x3 < ((List.length x1 : Nat) : Int)) <|
 again ((wrapI .u64 ((wrapI .u64 (x2 * (1000000000 : Int))) + (wrapI .u64 (List.getD x1 (toN x3) (0 : Int))))), (wrapI .i64 (x3 - (1 : Int))))
 else
 some x2)

def f125_l0 (x1 : List Int) : Nat → Int × Int → Option (Int) := loopF (f125_l0_b x1)

theorem f125_l0_ok (x1 : List Int) (k : Nat) (x2 : Int) (x3 : Int) {out : (Int)} (h : f125_l0 x1 k (x2, x3) = some out) : Run Pg 21 (bk1 (sq2 (sq1 (sq2 (sq2 c_125))))) ⟨[(0, .d t83 x1), (3, .d t12 x2), (4, .d t2 x3)], []⟩ (f125_l0_post x1 out) := by
 refine Run.loopN (by kernel_rfl) (fun m s => ∃ x2 x3, s = ⟨[(0, .d t83 x1), (3, .d t12 x2), (4, .d t2 x3)], []⟩ ∧ f125_l0 x1 m (x2, x3) = some out) ?_ k ⟨x2, x3,  rfl, h⟩
 rintro m s ⟨x2, x3,  rfl, h⟩
 cases m with
 | zero => cases h
 | succ m =>
 replace h : f125_l0_b x1 (f125_l0 x1 m) (x2, x3) = some out := h
 unfold f125_l0_b at h
 refine Run.sq ?_
 refine qN [] 400 ⟨[(0, .d t83 x1), (3, .d t12 x2), (4, .d t2 x3), (9, .d t4 (decide ((0 : Int) ≤ x3)))], []⟩ aN ?_
 refine Run.cd (decide ((0 : Int) ≤ x3)) (fun hb => ?_) (fun hb => ?_)
 ·replace h := bif_t h hb
  refine Run.sk ?_
  show Run Pg 21 _ _ _
  refine Run.sq ?_
  refine Run.bl 1 ?_
  obtain ⟨g_0, h⟩ := gd_elim h
  obtain ⟨g_1, h⟩ := gd_elim h
  refine qE [] 600 ⟨[(0, .d t83 x1), (3, .d t12 (wrapI .u64 ((wrapI .u64 (x2 * (1000000000 : Int))) + (wrapI .u64 (List.getD x1 (toN x3) (0 : Int)))))), (4, .d t2 x3)], []⟩ (aC g_0 (aC g_1 aN)) ?_
  show Run Pg 21 _ _ _
  refine qE [] 500 ⟨[(0, .d t83 x1), (3, .d t12 (wrapI .u64 ((wrapI .u64 (x2 * (1000000000 : Int))) + (wrapI .u64 (List.getD x1 (toN x3) (0 : Int)))))), (4, .d t2 (wrapI .i64 (x3 - (1 : Int))))], []⟩ aN ?_
  exact ⟨m, Nat.lt_succ_self m, _, _, rfl, h⟩
 ·replace h := bif_f h hb
  refine qK ⟨[(3, .d t12 x2)], []⟩ ?_
  refine Run.ex 0 ?_
  obtain rfl := sI h
  exact ⟨rfl, by kernel_rfl⟩

def F125 (a0 : List Int) : Option (Int) :=
 ((f125_l0 a0 (2 + List.length a0) ((0 : Int), (wrapI .i64 ((ofN (List.length a0)) - (1 : Int))))).bind fun o4 =>
 some o4)

theorem c125 {a0 : List Int} {r : Int} (h : F125 a0 = some r) : CallPure Pg 125 [(.d t83 a0)] (.d t12 r) := by
 refine qC c_125 21 [.tmp 2] [121] Go.Proofs.Tryz.func125 ?_
 show Run Pg 21 c_125 ⟨[(0, .d t83 a0)], []⟩ (fin125 r)
 unfold F125 at h
 refine qN [] 100 ⟨[(0, .d t83 a0)], []⟩ aN ?_
 refine qN [] 200 ⟨[(0, .d t83 a0), (3, .d t12 (0 : Int))], []⟩ aN ?_
 refine Run.sq ?_
 refine qN [] 300 ⟨[(0, .d t83 a0), (3, .d t12 (0 : Int)), (4, .d t2 (wrapI .i64 ((ofN (List.length a0)) - (1 : Int))))], []⟩ aN ?_
 refine Run.bl 0 ?_
 obtain ⟨o4, h_o4, h⟩ := bnd_elim h
 refine Run.mono (f125_l0_ok a0 _ (0 : Int) (wrapI .i64 ((ofN (List.length a0)) - (1 : Int))) h_o4) ?_
 rintro _ _ ⟨rfl, rfl⟩
 show Run Pg 21 _ _ _
 refine qN [] 700 ⟨[(2, .d t12 o4)], []⟩ aN ?_
 refine Run.rt ?_
 obtain rfl := sI h
 exact qR [(.d t12 o4)]

/-! ## f138 -/

noncomputable def c_138 : Code := body0 Go.Proofs.Tryz.f138

def fin138 (r : (List Int)) : Ex → St → Prop := endK X0 [.tmp 4] [83] (.d t83 r)

def F138 (a0 : List Int) (a1 : Int) : Option ((List Int)) :=
 (F103 ([a1] : List Int)).bind fun y1 =>
 (F83 a0 y1).bind fun y2 =>
 some y2

theorem c138 {a0 : List Int} {a1 : Int} {r : (List Int)} (h : F138 a0 a1 = some r) : CallPure Pg 138 [(.d t83 a0), (.d t127 a1)] (.d t83 r) := by
 refine qC c_138 10 [.tmp 4] [83] Go.Proofs.Tryz.func138 ?_
 show Run Pg 10 c_138 ⟨[(0, .d t83 a0), (1, .d t127 a1)], []⟩ (fin138 r)
 unfold F138 at h
 refine qN [] 100 ⟨[(0, .d t83 a0), (1, .d t127 a1)], []⟩ aN ?_
 obtain ⟨y1, h_y1, h⟩ := bnd_elim h
 obtain ⟨y2, h_y2, h⟩ := bnd_elim h
 refine qN [(3, .call (.d t83 y1)), (4, .call (.d t83 y2))] 200 ⟨[(4, .d t83 y2)], []⟩ (aC (c103 h_y1) (aC (c83 h_y2) aN)) ?_
 refine Run.rt ?_
 obtain rfl := sI h
 exact qR [(.d t83 y2)]

/-! ## f124 -/

noncomputable def c_124 : Code := body0 Go.Proofs.Tryz.f124

def fin124 (r : (List Int) × (List Int)) : Ex → St → Prop := endK X0 [.tmp 4, .tmp 5] [83, 83] (.tup (.vcons (.d t83 r.1) (.vcons (.d t83 r.2) .vnil)))

def f124_c1_post (x72 : Int) (x73 : List Int) (x74 : Int) (x75 : List Int) (x76 : Nat) (x77 : Nat) (x78 : List Int) (x79 : Int) (x80 : Int) (x81 : Bool) (x82 : List Int) : (Int) → Ex → St → Prop
 | o, x, s => x = .nrm ∧ s = ⟨[(8, .d t127 x72), (9, .d t83 x73), (10, .d t12 x74), (11, .d t83 x75), (12, .sub 903 t127 x76 x77), (13, .d t83 x78), (14, .d t2 x79), (15, .d t12 o)], [(903, .vec 127 t127 x82)]⟩

def f124_c1 (x73 : List Int) (x75 : List Int) (x80 : Int) (x81 : Bool) : Option (Int) :=
 (bif x81 then
 gd (0 ≤ (ofN (List.length x73))) <|
 gd ((ofN (List.length x73)) < ((List.length x75 : Nat) : Int)) <|
 some (wrapI .u64 ((wrapI .u64 (List.getD x75 (toN (ofN (List.length x73))) (0 : Int))) * (1000000000 : Int)))
 else
 some x80)

theorem f124_c1_ok (x72 : Int) (x73 : List Int) (x74 : Int) (x75 : List Int) (x76 : Nat) (x77 : Nat) (x78 : List Int) (x79 : Int) (x80 : Int) (x81 : Bool) (x82 : List Int) {out : (Int)} (h : f124_c1 x73 x75 x80 x81 = some out) : Run Pg 173 (sq2 (sq1 (sq2 (sq2 (bk1 (sq1 (sq2 (lp1 (bk1 (sq2 (sq1 (sq2 (sq2 (sq2 (sq2 (sq2 (sq2 (sq2 (sq2 (sq2 c_124)))))))))))))))))))) ⟨[(8, .d t127 x72), (9, .d t83 x73), (10, .d t12 x74), (11, .d t83 x75), (12, .sub 903 t127 x76 x77), (13, .d t83 x78), (14, .d t2 x79), (15, .d t12 x80), (91, .d t4 x81)], [(903, .vec 127 t127 x82)]⟩ (f124_c1_post x72 x73 x74 x75 x76 x77 x78 x79 x80 x81 x82 out) := by
 unfold f124_c1 at h
 refine Run.cd x81 (fun hb => ?_) (fun hb => ?_)
 ·replace h := bif_t h hb
  obtain ⟨g_0, h⟩ := gd_elim h
  obtain ⟨g_1, h⟩ := gd_elim h
  refine qE [] 1800 ⟨[(8, .d t127 x72), (9, .d t83 x73), (10, .d t12 x74), (11, .d t83 x75), (12, .sub 903 t127 x76 x77), (13, .d t83 x78), (14, .d t2 x79), (15, .d t12 (wrapI .u64 ((wrapI .u64 (List.getD x75 (toN (ofN (List.length x73))) (0 : Int))) * (1000000000 : Int))))], [(903, .vec 127 t127 x82)]⟩ (aC g_0 (aC g_1 aN)) ?_
  obtain rfl := sI h
  exact ⟨rfl, by kernel_rfl⟩
 ·replace h := bif_f h hb
  refine qK ⟨[(8, .d t127 x72), (9, .d t83 x73), (10, .d t12 x74), (11, .d t83 x75), (12, .sub 903 t127 x76 x77), (13, .d t83 x78), (14, .d t2 x79), (15, .d t12 x80)], [(903, .vec 127 t127 x82)]⟩ ?_
  refine Run.sk ?_
  obtain rfl := sI h
  exact ⟨rfl, by kernel_rfl⟩

def f124_c2_post (x84 : Int) (x85 : List Int) (x86 : Int) (x87 : List Int) (x88 : Nat) (x89 : Nat) (x90 : List Int) (x91 : Int) (x92 : Int) (x93 : Bool) (x94 : List Int) : (Int) → Ex → St → Prop
 | o, x, s => x = .nrm ∧ s = ⟨[(8, .d t127 x84), (9, .d t83 x85), (10, .d t12 x86), (11, .d t83 x87), (12, .sub 903 t127 x88 x89), (13, .d t83 x90), (14, .d t2 x91), (15, .d t12 o)], [(903, .vec 127 t127 x94)]⟩

def f124_c2 (x85 : List Int) (x87 : List Int) (x92 : Int) (x93 : Bool) : Option (Int) :=
 (bif x93 then
 gd (0 ≤ (wrapI .i64 ((ofN (List.length x85)) - (1 : Int)))) <|
 gd ((wrapI .i64 ((ofN (List.length x85)) - (1 : Int))) < ((List.length x87 : Nat) : Int)) <|
 some (wrapI .u64 (x92 + (wrapI .u64 (List.getD x87 (toN (wrapI .i64 ((ofN (List.length x85)) - (1 : Int)))) (0 : Int)))))
 else
 some x92)

theorem f124_c2_ok (x84 : Int) (x85 : List Int) (x86 : Int) (x87 : List Int) (x88 : Nat) (x89 : Nat) (x90 : List Int) (x91 : Int) (x92 : Int) (x93 : Bool) (x94 : List Int) {out : (Int)} (h : f124_c2 x85 x87 x92 x93 = some out) : Run Pg 173 (sq2 (sq1 (sq2 (sq2 (sq2 (bk1 (sq1 (sq2 (lp1 (bk1 (sq2 (sq1 (sq2 (sq2 (sq2 (sq2 (sq2 (sq2 (sq2 (sq2 (sq2 c_124))))))))))))))))))))) ⟨[(8, .d t127 x84), (9, .d t83 x85), (10, .d t12 x86), (11, .d t83 x87), (12, .sub 903 t127 x88 x89), (13, .d t83 x90), (14, .d t2 x91), (15, .d t12 x92), (103, .d t4 x93)], [(903, .vec 127 t127 x94)]⟩ (f124_c2_post x84 x85 x86 x87 x88 x89 x90 x91 x92 x93 x94 out) := by
 unfold f124_c2 at h
 refine Run.cd x93 (fun hb => ?_) (fun hb => ?_)
 ·replace h := bif_t h hb
  obtain ⟨g_0, h⟩ := gd_elim h
  obtain ⟨g_1, h⟩ := gd_elim h
  refine qE [] 2000 ⟨[(8, .d t127 x84), (9, .d t83 x85), (10, .d t12 x86), (11, .d t83 x87), (12, .sub 903 t127 x88 x89), (13, .d t83 x90), (14, .d t2 x91), (15, .d t12 (wrapI .u64 (x92 + (wrapI .u64 (List.getD x87 (toN (wrapI .i64 ((ofN (List.length x85)) - (1 : Int)))) (0 : Int))))))], [(903, .vec 127 t127 x94)]⟩ (aC g_0 (aC g_1 aN)) ?_
  obtain rfl := sI h
  exact ⟨rfl, by kernel_rfl⟩
 ·replace h := bif_f h hb
  refine qK ⟨[(8, .d t127 x84), (9, .d t83 x85), (10, .d t12 x86), (11, .d t83 x87), (12, .sub 903 t127 x88 x89), (13, .d t83 x90), (14, .d t2 x91), (15, .d t12 x92)], [(903, .vec 127 t127 x94)]⟩ ?_
  refine Run.sk ?_
  obtain rfl := sI h
  exact ⟨rfl, by kernel_rfl⟩

def f124_c3_post (x96 : Int) (x97 : List Int) (x98 : Int) (x99 : List Int) (x100 : Nat) (x101 : Nat) (x102 : List Int) (x103 : Int) (x104 : Int) (x105 : Bool) (x106 : List Int) : (Int) → Ex → St → Prop
 | o, x, s => x = .nrm ∧ s = ⟨[(8, .d t127 x96), (9, .d t83 x97), (10, .d t12 x98), (11, .d t83 x99), (12, .sub 903 t127 x100 x101), (13, .d t83 x102), (14, .d t2 x103), (16, .d t12 o)], [(903, .vec 127 t127 x106)]⟩

def f124_c3 (x104 : Int) (x105 : Bool) : Option (Int) :=
 (bif x105 then
 some (999999999 : Int)
 else
 some x104)

theorem f124_c3_ok (x96 : Int) (x97 : List Int) (x98 : Int) (x99 : List Int) (x100 : Nat) (x101 : Nat) (x102 : List Int) (x103 : Int) (x104 : Int) (x105 : Bool) (x106 : List Int) {out : (Int)} (h : f124_c3 x104 x105 = some out) : Run Pg 173 (sq2 (sq1 (sq2 (sq2 (sq2 (sq2 (sq2 (bk1 (sq1 (sq2 (lp1 (bk1 (sq2 (sq1 (sq2 (sq2 (sq2 (sq2 (sq2 (sq2 (sq2 (sq2 (sq2 c_124))))))))))))))))))))))) ⟨[(8, .d t127 x96), (9, .d t83 x97), (10, .d t12 x98), (11, .d t83 x99), (12, .sub 903 t127 x100 x101), (13, .d t83 x102), (14, .d t2 x103), (16, .d t12 x104), (117, .d t4 x105)], [(903, .vec 127 t127 x106)]⟩ (f124_c3_post x96 x97 x98 x99 x100 x101 x102 x103 x104 x105 x106 out) := by
 unfold f124_c3 at h
 refine Run.cd x105 (fun hb => ?_) (fun hb => ?_)
 ·replace h := bif_t h hb
  refine qE [] 2300 ⟨[(8, .d t127 x96), (9, .d t83 x97), (10, .d t12 x98), (11, .d t83 x99), (12, .sub 903 t127 x100 x101), (13, .d t83 x102), (14, .d t2 x103), (16, .d t12 (999999999 : Int))], [(903, .vec 127 t127 x106)]⟩ aN ?_
  obtain rfl := sI h
  exact ⟨rfl, by kernel_rfl⟩
 ·replace h := bif_f h hb
  refine qK ⟨[(8, .d t127 x96), (9, .d t83 x97), (10, .d t12 x98), (11, .d t83 x99), (12, .sub 903 t127 x100 x101), (13, .d t83 x102), (14, .d t2 x103), (16, .d t12 x104)], [(903, .vec 127 t127 x106)]⟩ ?_
  refine Run.sk ?_
  obtain rfl := sI h
  exact ⟨rfl, by kernel_rfl⟩

def f124_l4_post (x109 : Int) (x110 : List Int) (x111 : Int) (x112 : List Int) (x113 : Nat) (x114 : Nat) (x115 : List Int) (x116 : Int) (x119 : List Int) : (Int × (List Int)) → Ex → St → Prop
 | o, x, s => x = .out 2 ∧ s = ⟨[(8, .d t127 x109), (9, .d t83 x110), (10, .d t12 x111), (11, .d t83 x112), (12, .sub 903 t127 x113 x114), (13, .d t83 x115), (14, .d t2 x116), (16, .d t12 o.1), (17, .d t83 o.2)], [(903, .vec 127 t127 x119)]⟩

def f124_l4_b (x110 : List Int) (x112 : List Int) (again : Int × (List Int) → Option (Int × (List Int))) : Int × (List Int) → Option (Int × (List Int))
 | (x117, x118) =>
 (F81 x118 x112).bind fun y122 =>
 (bif (decide ((0 : Int) < y122)) then
 (F139 x118 x110).bind fun y123 =>
 again ((wrapI .u64 (x117 - (1 : Int))), y123)
 else
 some (x117, x118))

def f124_l4 (x110 : List Int) (x112 : List Int) : Nat → Int × (List Int) → Option (Int × (List Int)) := loopF (f124_l4_b x110 x112)

theorem f124_l4_ok (x109 : Int) (x110 : List Int) (x111 : Int) (x112 : List Int) (x113 : Nat) (x114 : Nat) (x115 : List Int) (x116 : Int) (x119 : List Int) (k : Nat) (x117 : Int) (x118 : List Int) {out : (Int × (List Int))} (h : f124_l4 x110 x112 k (x117, x118) = some out) : Run Pg 173 (bk1 (sq1 (sq2 (sq2 (sq2 (sq2 (sq2 (sq2 (sq2 (bk1 (sq1 (sq2 (lp1 (bk1 (sq2 (sq1 (sq2 (sq2 (sq2 (sq2 (sq2 (sq2 (sq2 (sq2 (sq2 c_124))))))))))))))))))))))))) ⟨[(8, .d t127 x109), (9, .d t83 x110), (10, .d t12 x111), (11, .d t83 x112), (12, .sub 903 t127 x113 x114), (13, .d t83 x115), (14, .d t2 x116), (16, .d t12 x117), (17, .d t83 x118)], [(903, .vec 127 t127 x119)]⟩ (f124_l4_post x109 x110 x111 x112 x113 x114 x115 x116 x119 out) := by
 refine Run.loopN (by kernel_rfl) (fun m s => ∃ x117 x118, s = ⟨[(8, .d t127 x109), (9, .d t83 x110), (10, .d t12 x111), (11, .d t83 x112), (12, .sub 903 t127 x113 x114), (13, .d t83 x115), (14, .d t2 x116), (16, .d t12 x117), (17, .d t83 x118)], [(903, .vec 127 t127 x119)]⟩ ∧ f124_l4 x110 x112 m (x117, x118) = some out) ?_ k ⟨x117, x118,  rfl, h⟩
 rintro m s ⟨x117, x118,  rfl, h⟩
 cases m with
 | zero => cases h
 | succ m =>
 replace h : f124_l4_b x110 x112 (f124_l4 x110 x112 m) (x117, x118) = some out := h
 unfold f124_l4_b at h
 refine Run.sq ?_
 obtain ⟨y122, h_y122, h⟩ := bnd_elim h
 refine qN [(2, .call (.d t2 y122))] 2500 ⟨[(8, .d t127 x109), (9, .d t83 x110), (10, .d t12 x111), (11, .d t83 x112), (12, .sub 903 t127 x113 x114), (13, .d t83 x115), (14, .d t2 x116), (16, .d t12 x117), (17, .d t83 x118), (125, .d t4 (decide ((0 : Int) < y122)))], [(903, .vec 127 t127 x119)]⟩ (aC (c81 h_y122) aN) ?_
 refine Run.cd (decide ((0 : Int) < y122)) (fun hb => ?_) (fun hb => ?_)
 ·replace h := bif_t h hb
  refine Run.sk ?_
  show Run Pg 173 _ _ _
  refine Run.bl 3 ?_
  refine qN [] 2600 ⟨[(8, .d t127 x109), (9, .d t83 x110), (10, .d t12 x111), (11, .d t83 x112), (12, .sub 903 t127 x113 x114), (13, .d t83 x115), (14, .d t2 x116), (16, .d t12 (wrapI .u64 (x117 - (1 : Int)))), (17, .d t83 x118)], [(903, .vec 127 t127 x119)]⟩ aN ?_
  obtain ⟨y123, h_y123, h⟩ := bnd_elim h
  refine qE [(2, .call (.d t83 y123))] 2700 ⟨[(8, .d t127 x109), (9, .d t83 x110), (10, .d t12 x111), (11, .d t83 x112), (12, .sub 903 t127 x113 x114), (13, .d t83 x115), (14, .d t2 x116), (16, .d t12 (wrapI .u64 (x117 - (1 : Int)))), (17, .d t83 y123)], [(903, .vec 127 t127 x119)]⟩ (aC (c139 h_y123) aN) ?_
  exact ⟨m, Nat.lt_succ_self m, _, _, rfl, h⟩
 ·replace h := bif_f h hb
  refine qK ⟨[(8, .d t127 x109), (9, .d t83 x110), (10, .d t12 x111), (11, .d t83 x112), (12, .sub 903 t127 x113 x114), (13, .d t83 x115), (14, .d t2 x116), (16, .d t12 x117), (17, .d t83 x118)], [(903, .vec 127 t127 x119)]⟩ ?_
  refine Run.ex 2 ?_
  obtain rfl := sI h
  exact ⟨rfl, by kernel_rfl⟩

def f124_l0_post (x7 : Int) (x8 : List Int) (x9 : Int) (x11 : Nat) (x12 : Nat) (x13 : List Int) : ((List Int) × (List Int)) → Ex → St → Prop
 | o, x, s => x = .out 0 ∧ s = ⟨[(8, .d t127 x7), (11, .d t83 o.1), (12, .sub 903 t127 x11 x12)], [(903, .vec 127 t127 o.2)]⟩

def f124_l0_b (x8 : List Int) (x9 : Int) (x11 : Nat) (x12 : Nat) (x13 : List Int) (again : (List Int) × Int × (List Int) → Option ((List Int) × (List Int))) : (List Int) × Int × (List Int) → Option ((List Int) × (List Int))
 | (x10, x14, x15) =>
 (bif (decide ((0 : Int) ≤ x14)) then
 gd (0 ≤ x14) <|
 gd (x14 < ((List.length x13 : Nat) : Int)) <|
 gd (List.length (([(List.getD x13 (toN x14) (0 : Int))] : List Int) ++ x10) ≤ 1073741824) <|
 (F103 (([(List.getD x13 (toN x14) (0 : Int))] : List Int) ++ x10)).bind fun y71 =>
 ((f124_c1 x8 y71 (0 : Int) (decide ((ofN (List.length x8)) < (ofN (List.length y71))))).bind fun o83 =>
 ((f124_c2 x8 y71 o83 (decide ((ofN (List.length x8)) ≤ (ofN (List.length y71))))).bind fun o95 =>
 gd (x9 ≠ 0) <|
 ((f124_c3 (wrapI .u64 (Int.tdiv o95 x9)) (decide ((999999999 : Int) < (wrapI .u64 (Int.tdiv o95 x9))))).bind fun o107 =>
 (F138 x8 (wrapI .u32 o107)).bind fun y108 =>
 ((f124_l4 x8 y71 (2 + List.length x8 + List.length y71 + List.length x13 + List.length x15 + List.length y108) (o107, y108)).bind fun o124 =>
 (F139 y71 o124.2).bind fun y125 =>
 gd (0 ≤ x14) <|
 gd (x14 < ((x12 : Nat) : Int)) <|
 gd ((x11 + toN x14) < List.length x15) <|
 again (y125, (wrapI .i64 (x14 - (1 : Int))), (List.set x15 (x11 + toN x14) (wrapI .u32 o124.1)))))))
 else
 some (x10, x15))

def f124_l0 (x8 : List Int) (x9 : Int) (x11 : Nat) (x12 : Nat) (x13 : List Int) : Nat → (List Int) × Int × (List Int) → Option ((List Int) × (List Int)) := loopF (f124_l0_b x8 x9 x11 x12 x13)

theorem f124_l0_ok (x7 : Int) (x8 : List Int) (x9 : Int) (x11 : Nat) (x12 : Nat) (x13 : List Int) (k : Nat) (x10 : List Int) (x14 : Int) (x15 : List Int) {out : ((List Int) × (List Int))} (h : f124_l0 x8 x9 x11 x12 x13 k (x10, x14, x15) = some out) : Run Pg 173 (bk1 (sq2 (sq1 (sq2 (sq2 (sq2 (sq2 (sq2 (sq2 (sq2 (sq2 (sq2 c_124)))))))))))) ⟨[(8, .d t127 x7), (9, .d t83 x8), (10, .d t12 x9), (11, .d t83 x10), (12, .sub 903 t127 x11 x12), (13, .d t83 x13), (14, .d t2 x14)], [(903, .vec 127 t127 x15)]⟩ (f124_l0_post x7 x8 x9 x11 x12 x13 out) := by
 refine Run.loopN (by kernel_rfl) (fun m s => ∃ x10 x14 x15, s = ⟨[(8, .d t127 x7), (9, .d t83 x8), (10, .d t12 x9), (11, .d t83 x10), (12, .sub 903 t127 x11 x12), (13, .d t83 x13), (14, .d t2 x14)], [(903, .vec 127 t127 x15)]⟩ ∧ f124_l0 x8 x9 x11 x12 x13 m (x10, x14, x15) = some out) ?_ k ⟨x10, x14, x15,  rfl, h⟩
 rintro m s ⟨x10, x14, x15,  rfl, h⟩
 cases m with
 | zero => cases h
 | succ m =>
 replace h : f124_l0_b x8 x9 x11 x12 x13 (f124_l0 x8 x9 x11 x12 x13 m) (x10, x14, x15) = some out := h
 unfold f124_l0_b at h
 refine Run.sq ?_
 refine qN [] 1300 ⟨[(8, .d t127 x7), (9, .d t83 x8), (10, .d t12 x9), (11, .d t83 x10), (12, .sub 903 t127 x11 x12), (13, .d t83 x13), (14, .d t2 x14), (76, .d t4 (decide ((0 : Int) ≤ x14)))], [(903, .vec 127 t127 x15)]⟩ aN ?_
 refine Run.cd (decide ((0 : Int) ≤ x14)) (fun hb => ?_) (fun hb => ?_)
 ·replace h := bif_t h hb
  refine Run.sk ?_
  show Run Pg 173 _ _ _
  refine Run.sq ?_
  refine Run.bl 1 ?_
  obtain ⟨g_0, h⟩ := gd_elim h
  obtain ⟨g_1, h⟩ := gd_elim h
  obtain ⟨g_2, h⟩ := gd_elim h
  obtain ⟨y71, h_y71, h⟩ := bnd_elim h
  refine qN [(4, .own), (6, .part), (7, .call (.d t83 y71))] 1500 ⟨[(8, .d t127 x7), (9, .d t83 x8), (10, .d t12 x9), (11, .d t83 y71), (12, .sub 903 t127 x11 x12), (13, .d t83 x13), (14, .d t2 x14)], [(903, .vec 127 t127 x15)]⟩ (aC g_0 (aC g_1 (aC g_2 (aC (c103 h_y71) aN)))) ?_
  refine qN [] 1600 ⟨[(8, .d t127 x7), (9, .d t83 x8), (10, .d t12 x9), (11, .d t83 y71), (12, .sub 903 t127 x11 x12), (13, .d t83 x13), (14, .d t2 x14), (15, .d t12 (0 : Int))], [(903, .vec 127 t127 x15)]⟩ aN ?_
  refine Run.sq ?_
  refine qN [] 1700 ⟨[(8, .d t127 x7), (9, .d t83 x8), (10, .d t12 x9), (11, .d t83 y71), (12, .sub 903 t127 x11 x12), (13, .d t83 x13), (14, .d t2 x14), (15, .d t12 (0 : Int)), (91, .d t4 (decide ((ofN (List.length x8)) < (ofN (List.length y71)))))], [(903, .vec 127 t127 x15)]⟩ aN ?_
  obtain ⟨o83, h_o83, h⟩ := bnd_elim h
  refine Run.mono (f124_c1_ok x7 x8 x9 y71 x11 x12 x13 x14 (0 : Int) (decide ((ofN (List.length x8)) < (ofN (List.length y71)))) x15 h_o83) ?_
  rintro _ _ ⟨rfl, rfl⟩
  show Run Pg 173 _ _ _
  refine Run.sq ?_
  refine qN [] 1900 ⟨[(8, .d t127 x7), (9, .d t83 x8), (10, .d t12 x9), (11, .d t83 y71), (12, .sub 903 t127 x11 x12), (13, .d t83 x13), (14, .d t2 x14), (15, .d t12 o83), (103, .d t4 (decide ((ofN (List.length x8)) ≤ (ofN (List.length y71)))))], [(903, .vec 127 t127 x15)]⟩ aN ?_
  obtain ⟨o95, h_o95, h⟩ := bnd_elim h
  refine Run.mono (f124_c2_ok x7 x8 x9 y71 x11 x12 x13 x14 o83 (decide ((ofN (List.length x8)) ≤ (ofN (List.length y71)))) x15 h_o95) ?_
  rintro _ _ ⟨rfl, rfl⟩
  show Run Pg 173 _ _ _
  obtain ⟨g_0, h⟩ := gd_elim h
  refine qN [] 2100 ⟨[(8, .d t127 x7), (9, .d t83 x8), (10, .d t12 x9), (11, .d t83 y71), (12, .sub 903 t127 x11 x12), (13, .d t83 x13), (14, .d t2 x14), (16, .d t12 (wrapI .u64 (Int.tdiv o95 x9)))], [(903, .vec 127 t127 x15)]⟩ (aC g_0 aN) ?_
  refine Run.sq ?_
  refine qN [] 2200 ⟨[(8, .d t127 x7), (9, .d t83 x8), (10, .d t12 x9), (11, .d t83 y71), (12, .sub 903 t127 x11 x12), (13, .d t83 x13), (14, .d t2 x14), (16, .d t12 (wrapI .u64 (Int.tdiv o95 x9))), (117, .d t4 (decide ((999999999 : Int) < (wrapI .u64 (Int.tdiv o95 x9)))))], [(903, .vec 127 t127 x15)]⟩ aN ?_
  obtain ⟨o107, h_o107, h⟩ := bnd_elim h
  refine Run.mono (f124_c3_ok x7 x8 x9 y71 x11 x12 x13 x14 (wrapI .u64 (Int.tdiv o95 x9)) (decide ((999999999 : Int) < (wrapI .u64 (Int.tdiv o95 x9)))) x15 h_o107) ?_
  rintro _ _ ⟨rfl, rfl⟩
  show Run Pg 173 _ _ _
  obtain ⟨y108, h_y108, h⟩ := bnd_elim h
  refine qN [(3, .call (.d t83 y108))] 2400 ⟨[(8, .d t127 x7), (9, .d t83 x8), (10, .d t12 x9), (11, .d t83 y71), (12, .sub 903 t127 x11 x12), (13, .d t83 x13), (14, .d t2 x14), (16, .d t12 o107), (17, .d t83 y108)], [(903, .vec 127 t127 x15)]⟩ (aC (c138 h_y108) aN) ?_
  refine Run.sq ?_
  refine Run.bl 2 ?_
  obtain ⟨o124, h_o124, h⟩ := bnd_elim h
  refine Run.mono (f124_l4_ok x7 x8 x9 y71 x11 x12 x13 x14 x15 _ o107 y108 h_o124) ?_
  rintro _ _ ⟨rfl, rfl⟩
  show Run Pg 173 _ _ _
  obtain ⟨y125, h_y125, h⟩ := bnd_elim h
  refine qN [(2, .call (.d t83 y125))] 2800 ⟨[(8, .d t127 x7), (9, .d t83 x8), (10, .d t12 x9), (11, .d t83 y125), (12, .sub 903 t127 x11 x12), (13, .d t83 x13), (14, .d t2 x14), (16, .d t12 o124.1)], [(903, .vec 127 t127 x15)]⟩ (aC (c139 h_y125) aN) ?_
  obtain ⟨g_0, h⟩ := gd_elim h
  obtain ⟨g_1, h⟩ := gd_elim h
  obtain ⟨g_2, h⟩ := gd_elim h
  refine qE [] 2900 ⟨[(8, .d t127 x7), (9, .d t83 x8), (10, .d t12 x9), (11, .d t83 y125), (12, .sub 903 t127 x11 x12), (13, .d t83 x13), (14, .d t2 x14)], [(903, .vec 127 t127 (List.set x15 (x11 + toN x14) (wrapI .u32 o124.1)))]⟩ (aC g_0 (aC g_1 (aC g_2 aN))) ?_
  show Run Pg 173 _ _ _
  refine qE [] 1400 ⟨[(8, .d t127 x7), (9, .d t83 x8), (10, .d t12 x9), (11, .d t83 y125), (12, .sub 903 t127 x11 x12), (13, .d t83 x13), (14, .d t2 (wrapI .i64 (x14 - (1 : Int))))], [(903, .vec 127 t127 (List.set x15 (x11 + toN x14) (wrapI .u32 o124.1)))]⟩ aN ?_
  exact ⟨m, Nat.lt_succ_self m, _, _, _, rfl, h⟩
 ·replace h := bif_f h hb
  refine qK ⟨[(8, .d t127 x7), (11, .d t83 x10), (12, .sub 903 t127 x11 x12)], [(903, .vec 127 t127 x15)]⟩ ?_
  refine Run.ex 0 ?_
  obtain rfl := sI h
  exact ⟨rfl, by kernel_rfl⟩

def f124_l5_post (x127 : Int) (x128 : List Int) (x129 : Nat) (x130 : Nat) (x133 : List Int) : ((List Int)) → Ex → St → Prop
 | o, x, s => x = .out 4 ∧ s = ⟨[(12, .sub 903 t127 x129 x130), (19, .vec 3102 t127)], [(903, .vec 127 t127 x133), (3102, .vec 127 t127 o)]⟩

def f124_l5_b (x127 : Int) (x128 : List Int) (again : Int × Int × (List Int) → Option ((List Int))) : Int × Int × (List Int) → Option ((List Int))
 | (x131, x132, x134) =>
 (bif (decide ((0 : Int) ≤ x132)) then
 gd (0 ≤ x132) <|
 gd (x132 < ((List.length x128 : Nat) : Int)) <|
 gd ((wrapI .u64 x127) ≠ 0) <|
 gd (0 ≤ x132) <|
 gd (x132 < ((List.length x134 : Nat) : Int)) <|
 gd ((toN x132) < List.length x134) <|
 gd ((wrapI .u64 x127) ≠ 0) <|
 again ((Int.tmod (wrapI .u64 ((wrapI .u64 (x131 * (1000000000 : Int))) + (wrapI .u64 (List.getD x128 (toN x132) (0 : Int))))) (wrapI .u64 x127)), (wrapI .i64 (x132 - (1 : Int))), (List.set x134 (toN x132) (wrapI .u32 (wrapI .u64 (Int.tdiv (wrapI .u64 ((wrapI .u64 (x131 * (1000000000 : Int))) + (wrapI .u64 (List.getD x128 (toN x132) (0 : Int))))) (wrapI .u64 x127))))))
 else
 some x134)

def f124_l5 (x127 : Int) (x128 : List Int) : Nat → Int × Int × (List Int) → Option ((List Int)) := loopF (f124_l5_b x127 x128)

theorem f124_l5_ok (x127 : Int) (x128 : List Int) (x129 : Nat) (x130 : Nat) (x133 : List Int) (k : Nat) (x131 : Int) (x132 : Int) (x134 : List Int) {out : ((List Int))} (h : f124_l5 x127 x128 k (x131, x132, x134) = some out) : Run Pg 173 (bk1 (sq2 (sq1 (sq2 (sq2 (sq2 (sq2 (sq2 (sq2 (sq2 (sq2 (sq2 (sq2 (sq2 (sq2 c_124))))))))))))))) ⟨[(8, .d t127 x127), (11, .d t83 x128), (12, .sub 903 t127 x129 x130), (18, .d t12 x131), (19, .vec 3102 t127), (20, .d t2 x132)], [(903, .vec 127 t127 x133), (3102, .vec 127 t127 x134)]⟩ (f124_l5_post x127 x128 x129 x130 x133 out) := by
 refine Run.loopN (by kernel_rfl) (fun m s => ∃ x131 x132 x134, s = ⟨[(8, .d t127 x127), (11, .d t83 x128), (12, .sub 903 t127 x129 x130), (18, .d t12 x131), (19, .vec 3102 t127), (20, .d t2 x132)], [(903, .vec 127 t127 x133), (3102, .vec 127 t127 x134)]⟩ ∧ f124_l5 x127 x128 m (x131, x132, x134) = some out) ?_ k ⟨x131, x132, x134,  rfl, h⟩
 rintro m s ⟨x131, x132, x134,  rfl, h⟩
 cases m with
 | zero => cases h
 | succ m =>
 replace h : f124_l5_b x127 x128 (f124_l5 x127 x128 m) (x131, x132, x134) = some out := h
 unfold f124_l5_b at h
 refine Run.sq ?_
 refine qN [] 3300 ⟨[(8, .d t127 x127), (11, .d t83 x128), (12, .sub 903 t127 x129 x130), (18, .d t12 x131), (19, .vec 3102 t127), (20, .d t2 x132), (146, .d t4 (decide ((0 : Int) ≤ x132)))], [(903, .vec 127 t127 x133), (3102, .vec 127 t127 x134)]⟩ aN ?_
 refine Run.cd (decide ((0 : Int) ≤ x132)) (fun hb => ?_) (fun hb => ?_)
 ·replace h := bif_t h hb
  refine Run.sk ?_
  show Run Pg 173 _ _ _
  refine Run.sq ?_
  refine Run.bl 5 ?_
  obtain ⟨g_0, h⟩ := gd_elim h
  obtain ⟨g_1, h⟩ := gd_elim h
  refine qN [] 3500 ⟨[(8, .d t127 x127), (11, .d t83 x128), (12, .sub 903 t127 x129 x130), (18, .d t12 (wrapI .u64 ((wrapI .u64 (x131 * (1000000000 : Int))) + (wrapI .u64 (List.getD x128 (toN x132) (0 : Int)))))), (19, .vec 3102 t127), (20, .d t2 x132)], [(903, .vec 127 t127 x133), (3102, .vec 127 t127 x134)]⟩ (aC g_0 (aC g_1 aN)) ?_
  obtain ⟨g_0, h⟩ := gd_elim h
  obtain ⟨g_1, h⟩ := gd_elim h
  obtain ⟨g_2, h⟩ := gd_elim h
  obtain ⟨g_3, h⟩ := gd_elim h
  refine qN [] 3600 ⟨[(8, .d t127 x127), (11, .d t83 x128), (12, .sub 903 t127 x129 x130), (18, .d t12 (wrapI .u64 ((wrapI .u64 (x131 * (1000000000 : Int))) + (wrapI .u64 (List.getD x128 (toN x132) (0 : Int)))))), (19, .vec 3102 t127), (20, .d t2 x132)], [(903, .vec 127 t127 x133), (3102, .vec 127 t127 (List.set x134 (toN x132) (wrapI .u32 (wrapI .u64 (Int.tdiv (wrapI .u64 ((wrapI .u64 (x131 * (1000000000 : Int))) + (wrapI .u64 (List.getD x128 (toN x132) (0 : Int))))) (wrapI .u64 x127))))))]⟩ (aC g_0 (aC g_1 (aC g_2 (aC g_3 aN)))) ?_
  obtain ⟨g_0, h⟩ := gd_elim h
  refine qE [] 3700 ⟨[(8, .d t127 x127), (11, .d t83 x128), (12, .sub 903 t127 x129 x130), (18, .d t12 (Int.tmod (wrapI .u64 ((wrapI .u64 (x131 * (1000000000 : Int))) + (wrapI .u64 (List.getD x128 (toN x132) (0 : Int))))) (wrapI .u64 x127))), (19, .vec 3102 t127), (20, .d t2 x132)], [(903, .vec 127 t127 x133), (3102, .vec 127 t127 (List.set x134 (toN x132) (wrapI .u32 (wrapI .u64 (Int.tdiv (wrapI .u64 ((wrapI .u64 (x131 * (1000000000 : Int))) + (wrapI .u64 (List.getD x128 (toN x132) (0 : Int))))) (wrapI .u64 x127))))))]⟩ (aC g_0 aN) ?_
  show Run Pg 173 _ _ _
  refine qE [] 3400 ⟨[(8, .d t127 x127), (11, .d t83 x128), (12, .sub 903 t127 x129 x130), (18, .d t12 (Int.tmod (wrapI .u64 ((wrapI .u64 (x131 * (1000000000 : Int))) + (wrapI .u64 (List.getD x128 (toN x132) (0 : Int))))) (wrapI .u64 x127))), (19, .vec 3102 t127), (20, .d t2 (wrapI .i64 (x132 - (1 : Int))))], [(903, .vec 127 t127 x133), (3102, .vec 127 t127 (List.set x134 (toN x132) (wrapI .u32 (wrapI .u64 (Int.tdiv (wrapI .u64 ((wrapI .u64 (x131 * (1000000000 : Int))) + (wrapI .u64 (List.getD x128 (toN x132) (0 : Int))))) (wrapI .u64 x127))))))]⟩ aN ?_
  exact ⟨m, Nat.lt_succ_self m, _, _, _, rfl, h⟩
 ·replace h := bif_f h hb
  refine qK ⟨[(12, .sub 903 t127 x129 x130), (19, .vec 3102 t127)], [(903, .vec 127 t127 x133), (3102, .vec 127 t127 x134)]⟩ ?_
  refine Run.ex 4 ?_
  obtain rfl := sI h
  exact ⟨rfl, by kernel_rfl⟩

def f124_c7_post (x205 : Int) (x206 : List Int) (x207 : Int) (x208 : List Int) (x209 : Nat) (x210 : Nat) (x211 : List Int) (x212 : Int) (x213 : Int) (x214 : Bool) (x215 : List Int) : (Int) → Ex → St → Prop
 | o, x, s => x = .nrm ∧ s = ⟨[(8, .d t127 x205), (9, .d t83 x206), (10, .d t12 x207), (11, .d t83 x208), (12, .sub 903 t127 x209 x210), (13, .d t83 x211), (14, .d t2 x212), (15, .d t12 o)], [(903, .vec 127 t127 x215)]⟩

def f124_c7 (x206 : List Int) (x208 : List Int) (x213 : Int) (x214 : Bool) : Option (Int) :=
 (bif x214 then
 gd (0 ≤ (ofN (List.length x206))) <|
 gd ((ofN (List.length x206)) < ((List.length x208 : Nat) : Int)) <|
 some (wrapI .u64 ((wrapI .u64 (List.getD x208 (toN (ofN (List.length x206))) (0 : Int))) * (1000000000 : Int)))
 else
 some x213)

theorem f124_c7_ok (x205 : Int) (x206 : List Int) (x207 : Int) (x208 : List Int) (x209 : Nat) (x210 : Nat) (x211 : List Int) (x212 : Int) (x213 : Int) (x214 : Bool) (x215 : List Int) {out : (Int)} (h : f124_c7 x206 x208 x213 x214 = some out) : Run Pg 173 (sq2 (sq1 (sq2 (sq2 (bk1 (sq1 (sq2 (lp1 (bk1 (sq2 (sq1 (sq2 (sq2 (sq2 (sq2 (sq2 (sq2 (sq2 (sq2 (sq2 c_124)))))))))))))))))))) ⟨[(8, .d t127 x205), (9, .d t83 x206), (10, .d t12 x207), (11, .d t83 x208), (12, .sub 903 t127 x209 x210), (13, .d t83 x211), (14, .d t2 x212), (15, .d t12 x213), (91, .d t4 x214)], [(903, .vec 127 t127 x215)]⟩ (f124_c7_post x205 x206 x207 x208 x209 x210 x211 x212 x213 x214 x215 out) := by
 unfold f124_c7 at h
 refine Run.cd x214 (fun hb => ?_) (fun hb => ?_)
 ·replace h := bif_t h hb
  obtain ⟨g_0, h⟩ := gd_elim h
  obtain ⟨g_1, h⟩ := gd_elim h
  refine qE [] 1800 ⟨[(8, .d t127 x205), (9, .d t83 x206), (10, .d t12 x207), (11, .d t83 x208), (12, .sub 903 t127 x209 x210), (13, .d t83 x211), (14, .d t2 x212), (15, .d t12 (wrapI .u64 ((wrapI .u64 (List.getD x208 (toN (ofN (List.length x206))) (0 : Int))) * (1000000000 : Int))))], [(903, .vec 127 t127 x215)]⟩ (aC g_0 (aC g_1 aN)) ?_
  obtain rfl := sI h
  exact ⟨rfl, by kernel_rfl⟩
 ·replace h := bif_f h hb
  refine qK ⟨[(8, .d t127 x205), (9, .d t83 x206), (10, .d t12 x207), (11, .d t83 x208), (12, .sub 903 t127 x209 x210), (13, .d t83 x211), (14, .d t2 x212), (15, .d t12 x213)], [(903, .vec 127 t127 x215)]⟩ ?_
  refine Run.sk ?_
  obtain rfl := sI h
  exact ⟨rfl, by kernel_rfl⟩

def f124_c8_post (x217 : Int) (x218 : List Int) (x219 : Int) (x220 : List Int) (x221 : Nat) (x222 : Nat) (x223 : List Int) (x224 : Int) (x225 : Int) (x226 : Bool) (x227 : List Int) : (Int) → Ex → St → Prop
 | o, x, s => x = .nrm ∧ s = ⟨[(8, .d t127 x217), (9, .d t83 x218), (10, .d t12 x219), (11, .d t83 x220), (12, .sub 903 t127 x221 x222), (13, .d t83 x223), (14, .d t2 x224), (15, .d t12 o)], [(903, .vec 127 t127 x227)]⟩

def f124_c8 (x218 : List Int) (x220 : List Int) (x225 : Int) (x226 : Bool) : Option (Int) :=
 (bif x226 then
 gd (0 ≤ (wrapI .i64 ((ofN (List.length x218)) - (1 : Int)))) <|
 gd ((wrapI .i64 ((ofN (List.length x218)) - (1 : Int))) < ((List.length x220 : Nat) : Int)) <|
 some (wrapI .u64 (x225 + (wrapI .u64 (List.getD x220 (toN (wrapI .i64 ((ofN (List.length x218)) - (1 : Int)))) (0 : Int)))))
 else
 some x225)

theorem f124_c8_ok (x217 : Int) (x218 : List Int) (x219 : Int) (x220 : List Int) (x221 : Nat) (x222 : Nat) (x223 : List Int) (x224 : Int) (x225 : Int) (x226 : Bool) (x227 : List Int) {out : (Int)} (h : f124_c8 x218 x220 x225 x226 = some out) : Run Pg 173 (sq2 (sq1 (sq2 (sq2 (sq2 (bk1 (sq1 (sq2 (lp1 (bk1 (sq2 (sq1 (sq2 (sq2 (sq2 (sq2 (sq2 (sq2 (sq2 (sq2 (sq2 c_124))))))))))))))))))))) ⟨[(8, .d t127 x217), (9, .d t83 x218), (10, .d t12 x219), (11, .d t83 x220), (12, .sub 903 t127 x221 x222), (13, .d t83 x223), (14, .d t2 x224), (15, .d t12 x225), (103, .d t4 x226)], [(903, .vec 127 t127 x227)]⟩ (f124_c8_post x217 x218 x219 x220 x221 x222 x223 x224 x225 x226 x227 out) := by
 unfold f124_c8 at h
 refine Run.cd x226 (fun hb => ?_) (fun hb => ?_)
 ·replace h := bif_t h hb
  obtain ⟨g_0, h⟩ := gd_elim h
  obtain ⟨g_1, h⟩ := gd_elim h
  refine qE [] 2000 ⟨[(8, .d t127 x217), (9, .d t83 x218), (10, .d t12 x219), (11, .d t83 x220), (12, .sub 903 t127 x221 x222), (13, .d t83 x223), (14, .d t2 x224), (15, .d t12 (wrapI .u64 (x225 + (wrapI .u64 (List.getD x220 (toN (wrapI .i64 ((ofN (List.length x218)) - (1 : Int)))) (0 : Int))))))], [(903, .vec 127 t127 x227)]⟩ (aC g_0 (aC g_1 aN)) ?_
  obtain rfl := sI h
  exact ⟨rfl, by kernel_rfl⟩
 ·replace h := bif_f h hb
  refine qK ⟨[(8, .d t127 x217), (9, .d t83 x218), (10, .d t12 x219), (11, .d t83 x220), (12, .sub 903 t127 x221 x222), (13, .d t83 x223), (14, .d t2 x224), (15, .d t12 x225)], [(903, .vec 127 t127 x227)]⟩ ?_
  refine Run.sk ?_
  obtain rfl := sI h
  exact ⟨rfl, by kernel_rfl⟩

def f124_c9_post (x229 : Int) (x230 : List Int) (x231 : Int) (x232 : List Int) (x233 : Nat) (x234 : Nat) (x235 : List Int) (x236 : Int) (x237 : Int) (x238 : Bool) (x239 : List Int) : (Int) → Ex → St → Prop
 | o, x, s => x = .nrm ∧ s = ⟨[(8, .d t127 x229), (9, .d t83 x230), (10, .d t12 x231), (11, .d t83 x232), (12, .sub 903 t127 x233 x234), (13, .d t83 x235), (14, .d t2 x236), (16, .d t12 o)], [(903, .vec 127 t127 x239)]⟩

def f124_c9 (x237 : Int) (x238 : Bool) : Option (Int) :=
 (bif x238 then
 some (999999999 : Int)
 else
 some x237)

theorem f124_c9_ok (x229 : Int) (x230 : List Int) (x231 : Int) (x232 : List Int) (x233 : Nat) (x234 : Nat) (x235 : List Int) (x236 : Int) (x237 : Int) (x238 : Bool) (x239 : List Int) {out : (Int)} (h : f124_c9 x237 x238 = some out) : Run Pg 173 (sq2 (sq1 (sq2 (sq2 (sq2 (sq2 (sq2 (bk1 (sq1 (sq2 (lp1 (bk1 (sq2 (sq1 (sq2 (sq2 (sq2 (sq2 (sq2 (sq2 (sq2 (sq2 (sq2 c_124))))))))))))))))))))))) ⟨[(8, .d t127 x229), (9, .d t83 x230), (10, .d t12 x231), (11, .d t83 x232), (12, .sub 903 t127 x233 x234), (13, .d t83 x235), (14, .d t2 x236), (16, .d t12 x237), (117, .d t4 x238)], [(903, .vec 127 t127 x239)]⟩ (f124_c9_post x229 x230 x231 x232 x233 x234 x235 x236 x237 x238 x239 out) := by
 unfold f124_c9 at h
 refine Run.cd x238 (fun hb => ?_) (fun hb => ?_)
 ·replace h := bif_t h hb
  refine qE [] 2300 ⟨[(8, .d t127 x229), (9, .d t83 x230), (10, .d t12 x231), (11, .d t83 x232), (12, .sub 903 t127 x233 x234), (13, .d t83 x235), (14, .d t2 x236), (16, .d t12 (999999999 : Int))], [(903, .vec 127 t127 x239)]⟩ aN ?_
  obtain rfl := sI h
  exact ⟨rfl, by kernel_rfl⟩
 ·replace h := bif_f h hb
  refine qK ⟨[(8, .d t127 x229), (9, .d t83 x230), (10, .d t12 x231), (11, .d t83 x232), (12, .sub 903 t127 x233 x234), (13, .d t83 x235), (14, .d t2 x236), (16, .d t12 x237)], [(903, .vec 127 t127 x239)]⟩ ?_
  refine Run.sk ?_
  obtain rfl := sI h
  exact ⟨rfl, by kernel_rfl⟩

def f124_l10_post (x242 : Int) (x243 : List Int) (x244 : Int) (x245 : List Int) (x246 : Nat) (x247 : Nat) (x248 : List Int) (x249 : Int) (x252 : List Int) : (Int × (List Int)) → Ex → St → Prop
 | o, x, s => x = .out 2 ∧ s = ⟨[(8, .d t127 x242), (9, .d t83 x243), (10, .d t12 x244), (11, .d t83 x245), (12, .sub 903 t127 x246 x247), (13, .d t83 x248), (14, .d t2 x249), (16, .d t12 o.1), (17, .d t83 o.2)], [(903, .vec 127 t127 x252)]⟩

def f124_l10_b (x243 : List Int) (x245 : List Int) (again : Int × (List Int) → Option (Int × (List Int))) : Int × (List Int) → Option (Int × (List Int))
 | (x250, x251) =>
 (F81 x251 x245).bind fun y255 =>
 (bif (decide ((0 : Int) < y255)) then
 (F139 x251 x243).bind fun y256 =>
 again ((wrapI .u64 (x250 - (1 : Int))), y256)
 else
 some (x250, x251))

def f124_l10 (x243 : List Int) (x245 : List Int) : Nat → Int × (List Int) → Option (Int × (List Int)) := loopF (f124_l10_b x243 x245)

theorem f124_l10_ok (x242 : Int) (x243 : List Int) (x244 : Int) (x245 : List Int) (x246 : Nat) (x247 : Nat) (x248 : List Int) (x249 : Int) (x252 : List Int) (k : Nat) (x250 : Int) (x251 : List Int) {out : (Int × (List Int))} (h : f124_l10 x243 x245 k (x250, x251) = some out) : Run Pg 173 (bk1 (sq1 (sq2 (sq2 (sq2 (sq2 (sq2 (sq2 (sq2 (bk1 (sq1 (sq2 (lp1 (bk1 (sq2 (sq1 (sq2 (sq2 (sq2 (sq2 (sq2 (sq2 (sq2 (sq2 (sq2 c_124))))))))))))))))))))))))) ⟨[(8, .d t127 x242), (9, .d t83 x243), (10, .d t12 x244), (11, .d t83 x245), (12, .sub 903 t127 x246 x247), (13, .d t83 x248), (14, .d t2 x249), (16, .d t12 x250), (17, .d t83 x251)], [(903, .vec 127 t127 x252)]⟩ (f124_l10_post x242 x243 x244 x245 x246 x247 x248 x249 x252 out) := by
 refine Run.loopN (by kernel_rfl) (fun m s => ∃ x250 x251, s = ⟨[(8, .d t127 x242), (9, .d t83 x243), (10, .d t12 x244), (11, .d t83 x245), (12, .sub 903 t127 x246 x247), (13, .d t83 x248), (14, .d t2 x249), (16, .d t12 x250), (17, .d t83 x251)], [(903, .vec 127 t127 x252)]⟩ ∧ f124_l10 x243 x245 m (x250, x251) = some out) ?_ k ⟨x250, x251,  rfl, h⟩
 rintro m s ⟨x250, x251,  rfl, h⟩
 cases m with
 | zero => cases h
 | succ m =>
 replace h : f124_l10_b x243 x245 (f124_l10 x243 x245 m) (x250, x251) = some out := h
 unfold f124_l10_b at h
 refine Run.sq ?_
 obtain ⟨y255, h_y255, h⟩ := bnd_elim h
 refine qN [(2, .call (.d t2 y255))] 2500 ⟨[(8, .d t127 x242), (9, .d t83 x243), (10, .d t12 x244), (11, .d t83 x245), (12, .sub 903 t127 x246 x247), (13, .d t83 x248), (14, .d t2 x249), (16, .d t12 x250), (17, .d t83 x251), (125, .d t4 (decide ((0 : Int) < y255)))], [(903, .vec 127 t127 x252)]⟩ (aC (c81 h_y255) aN) ?_
 refine Run.cd (decide ((0 : Int) < y255)) (fun hb => ?_) (fun hb => ?_)
 ·replace h := bif_t h hb
  refine Run.sk ?_
  show Run Pg 173 _ _ _
  refine Run.bl 3 ?_
  refine qN [] 2600 ⟨[(8, .d t127 x242), (9, .d t83 x243), (10, .d t12 x244), (11, .d t83 x245), (12, .sub 903 t127 x246 x247), (13, .d t83 x248), (14, .d t2 x249), (16, .d t12 (wrapI .u64 (x250 - (1 : Int)))), (17, .d t83 x251)], [(903, .vec 127 t127 x252)]⟩ aN ?_
  obtain ⟨y256, h_y256, h⟩ := bnd_elim h
  refine qE [(2, .call (.d t83 y256))] 2700 ⟨[(8, .d t127 x242), (9, .d t83 x243), (10, .d t12 x244), (11, .d t83 x245), (12, .sub 903 t127 x246 x247), (13, .d t83 x248), (14, .d t2 x249), (16, .d t12 (wrapI .u64 (x250 - (1 : Int)))), (17, .d t83 y256)], [(903, .vec 127 t127 x252)]⟩ (aC (c139 h_y256) aN) ?_
  exact ⟨m, Nat.lt_succ_self m, _, _, rfl, h⟩
 ·replace h := bif_f h hb
  refine qK ⟨[(8, .d t127 x242), (9, .d t83 x243), (10, .d t12 x244), (11, .d t83 x245), (12, .sub 903 t127 x246 x247), (13, .d t83 x248), (14, .d t2 x249), (16, .d t12 x250), (17, .d t83 x251)], [(903, .vec 127 t127 x252)]⟩ ?_
  refine Run.ex 2 ?_
  obtain rfl := sI h
  exact ⟨rfl, by kernel_rfl⟩

def f124_l6_post (x140 : Int) (x141 : List Int) (x142 : Int) (x144 : Nat) (x145 : Nat) (x146 : List Int) : ((List Int) × (List Int)) → Ex → St → Prop
 | o, x, s => x = .out 0 ∧ s = ⟨[(8, .d t127 x140), (11, .d t83 o.1), (12, .sub 903 t127 x144 x145)], [(903, .vec 127 t127 o.2)]⟩

def f124_l6_b (x141 : List Int) (x142 : Int) (x144 : Nat) (x145 : Nat) (x146 : List Int) (again : (List Int) × Int × (List Int) → Option ((List Int) × (List Int))) : (List Int) × Int × (List Int) → Option ((List Int) × (List Int))
 | (x143, x147, x148) =>
 (bif (decide ((0 : Int) ≤ x147)) then
 gd (0 ≤ x147) <|
 gd (x147 < ((List.length x146 : Nat) : Int)) <|
 gd (List.length (([(List.getD x146 (toN x147) (0 : Int))] : List Int) ++ x143) ≤ 1073741824) <|
 (F103 (([(List.getD x146 (toN x147) (0 : Int))] : List Int) ++ x143)).bind fun y204 =>
 ((f124_c7 x141 y204 (0 : Int) (decide ((ofN (List.length x141)) < (ofN (List.length y204))))).bind fun o216 =>
 ((f124_c8 x141 y204 o216 (decide ((ofN (List.length x141)) ≤ (ofN (List.length y204))))).bind fun o228 =>
 gd (x142 ≠ 0) <|
 ((f124_c9 (wrapI .u64 (Int.tdiv o228 x142)) (decide ((999999999 : Int) < (wrapI .u64 (Int.tdiv o228 x142))))).bind fun o240 =>
 (F138 x141 (wrapI .u32 o240)).bind fun y241 =>
 ((f124_l10 x141 y204 (2 + List.length x141 + List.length y204 + List.length x146 + List.length x148 + List.length y241) (o240, y241)).bind fun o257 =>
 (F139 y204 o257.2).bind fun y258 =>
 gd (0 ≤ x147) <|
 gd (x147 < ((x145 : Nat) : Int)) <|
 gd ((x144 + toN x147) < List.length x148) <|
 again (y258, (wrapI .i64 (x147 - (1 : Int))), (List.set x148 (x144 + toN x147) (wrapI .u32 o257.1)))))))
 else
 some (x143, x148))

def f124_l6 (x141 : List Int) (x142 : Int) (x144 : Nat) (x145 : Nat) (x146 : List Int) : Nat → (List Int) × Int × (List Int) → Option ((List Int) × (List Int)) := loopF (f124_l6_b x141 x142 x144 x145 x146)

theorem f124_l6_ok (x140 : Int) (x141 : List Int) (x142 : Int) (x144 : Nat) (x145 : Nat) (x146 : List Int) (k : Nat) (x143 : List Int) (x147 : Int) (x148 : List Int) {out : ((List Int) × (List Int))} (h : f124_l6 x141 x142 x144 x145 x146 k (x143, x147, x148) = some out) : Run Pg 173 (bk1 (sq2 (sq1 (sq2 (sq2 (sq2 (sq2 (sq2 (sq2 (sq2 (sq2 (sq2 c_124)))))))))))) ⟨[(8, .d t127 x140), (9, .d t83 x141), (10, .d t12 x142), (11, .d t83 x143), (12, .sub 903 t127 x144 x145), (13, .d t83 x146), (14, .d t2 x147)], [(903, .vec 127 t127 x148)]⟩ (f124_l6_post x140 x141 x142 x144 x145 x146 out) := by
 refine Run.loopN (by kernel_rfl) (fun m s => ∃ x143 x147 x148, s = ⟨[(8, .d t127 x140), (9, .d t83 x141), (10, .d t12 x142), (11, .d t83 x143), (12, .sub 903 t127 x144 x145), (13, .d t83 x146), (14, .d t2 x147)], [(903, .vec 127 t127 x148)]⟩ ∧ f124_l6 x141 x142 x144 x145 x146 m (x143, x147, x148) = some out) ?_ k ⟨x143, x147, x148,  rfl, h⟩
 rintro m s ⟨x143, x147, x148,  rfl, h⟩
 cases m with
 | zero => cases h
 | succ m =>
 replace h : f124_l6_b x141 x142 x144 x145 x146 (f124_l6 x141 x142 x144 x145 x146 m) (x143, x147, x148) = some out := h
 unfold f124_l6_b at h
 refine Run.sq ?_
 refine qN [] 1300 ⟨[(8, .d t127 x140), (9, .d t83 x141), (10, .d t12 x142), (11, .d t83 x143), (12, .sub 903 t127 x144 x145), (13, .d t83 x146), (14, .d t2 x147), (76, .d t4 (decide ((0 : Int) ≤ x147)))], [(903, .vec 127 t127 x148)]⟩ aN ?_
 refine Run.cd (decide ((0 : Int) ≤ x147)) (fun hb => ?_) (fun hb => ?_)
 ·replace h := bif_t h hb
  refine Run.sk ?_
  show Run Pg 173 _ _ _
  refine Run.sq ?_
  refine Run.bl 1 ?_
  obtain ⟨g_0, h⟩ := gd_elim h
  obtain ⟨g_1, h⟩ := gd_elim h
  obtain ⟨g_2, h⟩ := gd_elim h
  obtain ⟨y204, h_y204, h⟩ := bnd_elim h
  refine qN [(4, .own), (6, .part), (7, .call (.d t83 y204))] 1500 ⟨[(8, .d t127 x140), (9, .d t83 x141), (10, .d t12 x142), (11, .d t83 y204), (12, .sub 903 t127 x144 x145), (13, .d t83 x146), (14, .d t2 x147)], [(903, .vec 127 t127 x148)]⟩ (aC g_0 (aC g_1 (aC g_2 (aC (c103 h_y204) aN)))) ?_
  refine qN [] 1600 ⟨[(8, .d t127 x140), (9, .d t83 x141), (10, .d t12 x142), (11, .d t83 y204), (12, .sub 903 t127 x144 x145), (13, .d t83 x146), (14, .d t2 x147), (15, .d t12 (0 : Int))], [(903, .vec 127 t127 x148)]⟩ aN ?_
  refine Run.sq ?_
  refine qN [] 1700 ⟨[(8, .d t127 x140), (9, .d t83 x141), (10, .d t12 x142), (11, .d t83 y204), (12, .sub 903 t127 x144 x145), (13, .d t83 x146), (14, .d t2 x147), (15, .d t12 (0 : Int)), (91, .d t4 (decide ((ofN (List.length x141)) < (ofN (List.length y204)))))], [(903, .vec 127 t127 x148)]⟩ aN ?_
  obtain ⟨o216, h_o216, h⟩ := bnd_elim h
  refine Run.mono (f124_c7_ok x140 x141 x142 y204 x144 x145 x146 x147 (0 : Int) (decide ((ofN (List.length x141)) < (ofN (List.length y204)))) x148 h_o216) ?_
  rintro _ _ ⟨rfl, rfl⟩
  show Run Pg 173 _ _ _
  refine Run.sq ?_
  refine qN [] 1900 ⟨[(8, .d t127 x140), (9, .d t83 x141), (10, .d t12 x142), (11, .d t83 y204), (12, .sub 903 t127 x144 x145), (13, .d t83 x146), (14, .d t2 x147), (15, .d t12 o216), (103, .d t4 (decide ((ofN (List.length x141)) ≤ (ofN (List.length y204)))))], [(903, .vec 127 t127 x148)]⟩ aN ?_
  obtain ⟨o228, h_o228, h⟩ := bnd_elim h
  refine Run.mono (f124_c8_ok x140 x141 x142 y204 x144 x145 x146 x147 o216 (decide ((ofN (List.length x141)) ≤ (ofN (List.length y204)))) x148 h_o228) ?_
  rintro _ _ ⟨rfl, rfl⟩
  show Run Pg 173 _ _ _
  obtain ⟨g_0, h⟩ := gd_elim h
  refine qN [] 2100 ⟨[(8, .d t127 x140), (9, .d t83 x141), (10, .d t12 x142), (11, .d t83 y204), (12, .sub 903 t127 x144 x145), (13, .d t83 x146), (14, .d t2 x147), (16, .d t12 (wrapI .u64 (Int.tdiv o228 x142)))], [(903, .vec 127 t127 x148)]⟩ (aC g_0 aN) ?_
  refine Run.sq ?_
  refine qN [] 2200 ⟨[(8, .d t127 x140), (9, .d t83 x141), (10, .d t12 x142), (11, .d t83 y204), (12, .sub 903 t127 x144 x145), (13, .d t83 x146), (14, .d t2 x147), (16, .d t12 (wrapI .u64 (Int.tdiv o228 x142))), (117, .d t4 (decide ((999999999 : Int) < (wrapI .u64 (Int.tdiv o228 x142)))))], [(903, .vec 127 t127 x148)]⟩ aN ?_
  obtain ⟨o240, h_o240, h⟩ := bnd_elim h
  refine Run.mono (f124_c9_ok x140 x141 x142 y204 x144 x145 x146 x147 (wrapI .u64 (Int.tdiv o228 x142)) (decide ((999999999 : Int) < (wrapI .u64 (Int.tdiv o228 x142)))) x148 h_o240) ?_
  rintro _ _ ⟨rfl, rfl⟩
  show Run Pg 173 _ _ _
  obtain ⟨y241, h_y241, h⟩ := bnd_elim h
  refine qN [(3, .call (.d t83 y241))] 2400 ⟨[(8, .d t127 x140), (9, .d t83 x141), (10, .d t12 x142), (11, .d t83 y204), (12, .sub 903 t127 x144 x145), (13, .d t83 x146), (14, .d t2 x147), (16, .d t12 o240), (17, .d t83 y241)], [(903, .vec 127 t127 x148)]⟩ (aC (c138 h_y241) aN) ?_
  refine Run.sq ?_
  refine Run.bl 2 ?_
  obtain ⟨o257, h_o257, h⟩ := bnd_elim h
  refine Run.mono (f124_l10_ok x140 x141 x142 y204 x144 x145 x146 x147 x148 _ o240 y241 h_o257) ?_
  rintro _ _ ⟨rfl, rfl⟩
  show Run Pg 173 _ _ _
  obtain ⟨y258, h_y258, h⟩ := bnd_elim h
  refine qN [(2, .call (.d t83 y258))] 2800 ⟨[(8, .d t127 x140), (9, .d t83 x141), (10, .d t12 x142), (11, .d t83 y258), (12, .sub 903 t127 x144 x145), (13, .d t83 x146), (14, .d t2 x147), (16, .d t12 o257.1)], [(903, .vec 127 t127 x148)]⟩ (aC (c139 h_y258) aN) ?_
  obtain ⟨g_0, h⟩ := gd_elim h
  obtain ⟨g_1, h⟩ := gd_elim h
  obtain ⟨g_2, h⟩ := gd_elim h
  refine qE [] 2900 ⟨[(8, .d t127 x140), (9, .d t83 x141), (10, .d t12 x142), (11, .d t83 y258), (12, .sub 903 t127 x144 x145), (13, .d t83 x146), (14, .d t2 x147)], [(903, .vec 127 t127 (List.set x148 (x144 + toN x147) (wrapI .u32 o257.1)))]⟩ (aC g_0 (aC g_1 (aC g_2 aN))) ?_
  show Run Pg 173 _ _ _
  refine qE [] 1400 ⟨[(8, .d t127 x140), (9, .d t83 x141), (10, .d t12 x142), (11, .d t83 y258), (12, .sub 903 t127 x144 x145), (13, .d t83 x146), (14, .d t2 (wrapI .i64 (x147 - (1 : Int))))], [(903, .vec 127 t127 (List.set x148 (x144 + toN x147) (wrapI .u32 o257.1)))]⟩ aN ?_
  exact ⟨m, Nat.lt_succ_self m, _, _, _, rfl, h⟩
 ·replace h := bif_f h hb
  refine qK ⟨[(8, .d t127 x140), (11, .d t83 x143), (12, .sub 903 t127 x144 x145)], [(903, .vec 127 t127 x148)]⟩ ?_
  refine Run.ex 0 ?_
  obtain rfl := sI h
  exact ⟨rfl, by kernel_rfl⟩

def f124_l11_post (x260 : Int) (x261 : List Int) (x262 : Nat) (x263 : Nat) (x266 : List Int) : ((List Int)) → Ex → St → Prop
 | o, x, s => x = .out 4 ∧ s = ⟨[(12, .sub 903 t127 x262 x263), (19, .vec 3102 t127)], [(903, .vec 127 t127 x266), (3102, .vec 127 t127 o)]⟩

def f124_l11_b (x260 : Int) (x261 : List Int) (again : Int × Int × (List Int) → Option ((List Int))) : Int × Int × (List Int) → Option ((List Int))
 | (x264, x265, x267) =>
 (bif (decide ((0 : Int) ≤ x265)) then
 gd (0 ≤ x265) <|
 gd (x265 < ((List.length x261 : Nat) : Int)) <|
 gd ((wrapI .u64 x260) ≠ 0) <|
 gd (0 ≤ x265) <|
 gd (x265 < ((List.length x267 : Nat) : Int)) <|
 gd ((toN x265) < List.length x267) <|
 gd ((wrapI .u64 x260) ≠ 0) <|
 again ((Int.tmod (wrapI .u64 ((wrapI .u64 (x264 * (1000000000 : Int))) + (wrapI .u64 (List.getD x261 (toN x265) (0 : Int))))) (wrapI .u64 x260)), (wrapI .i64 (x265 - (1 : Int))), (List.set x267 (toN x265) (wrapI .u32 (wrapI .u64 (Int.tdiv (wrapI .u64 ((wrapI .u64 (x264 * (1000000000 : Int))) + (wrapI .u64 (List.getD x261 (toN x265) (0 : Int))))) (wrapI .u64 x260))))))
 else
 some x267)

def f124_l11 (x260 : Int) (x261 : List Int) : Nat → Int × Int × (List Int) → Option ((List Int)) := loopF (f124_l11_b x260 x261)

theorem f124_l11_ok (x260 : Int) (x261 : List Int) (x262 : Nat) (x263 : Nat) (x266 : List Int) (k : Nat) (x264 : Int) (x265 : Int) (x267 : List Int) {out : ((List Int))} (h : f124_l11 x260 x261 k (x264, x265, x267) = some out) : Run Pg 173 (bk1 (sq2 (sq1 (sq2 (sq2 (sq2 (sq2 (sq2 (sq2 (sq2 (sq2 (sq2 (sq2 (sq2 (sq2 c_124))))))))))))))) ⟨[(8, .d t127 x260), (11, .d t83 x261), (12, .sub 903 t127 x262 x263), (18, .d t12 x264), (19, .vec 3102 t127), (20, .d t2 x265)], [(903, .vec 127 t127 x266), (3102, .vec 127 t127 x267)]⟩ (f124_l11_post x260 x261 x262 x263 x266 out) := by
 refine Run.loopN (by kernel_rfl) (fun m s => ∃ x264 x265 x267, s = ⟨[(8, .d t127 x260), (11, .d t83 x261), (12, .sub 903 t127 x262 x263), (18, .d t12 x264), (19, .vec 3102 t127), (20, .d t2 x265)], [(903, .vec 127 t127 x266), (3102, .vec 127 t127 x267)]⟩ ∧ f124_l11 x260 x261 m (x264, x265, x267) = some out) ?_ k ⟨x264, x265, x267,  rfl, h⟩
 rintro m s ⟨x264, x265, x267,  rfl, h⟩
 cases m with
 | zero => cases h
 | succ m =>
 replace h : f124_l11_b x260 x261 (f124_l11 x260 x261 m) (x264, x265, x267) = some out := h
 unfold f124_l11_b at h
 refine Run.sq ?_
 refine qN [] 3300 ⟨[(8, .d t127 x260), (11, .d t83 x261), (12, .sub 903 t127 x262 x263), (18, .d t12 x264), (19, .vec 3102 t127), (20, .d t2 x265), (146, .d t4 (decide ((0 : Int) ≤ x265)))], [(903, .vec 127 t127 x266), (3102, .vec 127 t127 x267)]⟩ aN ?_
 refine Run.cd (decide ((0 : Int) ≤ x265)) (fun hb => ?_) (fun hb => ?_)
 ·replace h := bif_t h hb
  refine Run.sk ?_
  show Run Pg 173 _ _ _
  refine Run.sq ?_
  refine Run.bl 5 ?_
  obtain ⟨g_0, h⟩ := gd_elim h
  obtain ⟨g_1, h⟩ := gd_elim h
  refine qN [] 3500 ⟨[(8, .d t127 x260), (11, .d t83 x261), (12, .sub 903 t127 x262 x263), (18, .d t12 (wrapI .u64 ((wrapI .u64 (x264 * (1000000000 : Int))) + (wrapI .u64 (List.getD x261 (toN x265) (0 : Int)))))), (19, .vec 3102 t127), (20, .d t2 x265)], [(903, .vec 127 t127 x266), (3102, .vec 127 t127 x267)]⟩ (aC g_0 (aC g_1 aN)) ?_
  obtain ⟨g_0, h⟩ := gd_elim h
  obtain ⟨g_1, h⟩ := gd_elim h
  obtain ⟨g_2, h⟩ := gd_elim h
  obtain ⟨g_3, h⟩ := gd_elim h
  refine qN [] 3600 ⟨[(8, .d t127 x260), (11, .d t83 x261), (12, .sub 903 t127 x262 x263), (18, .d t12 (wrapI .u64 ((wrapI .u64 (x264 * (1000000000 : Int))) + (wrapI .u64 (List.getD x261 (toN x265) (0 : Int)))))), (19, .vec 3102 t127), (20, .d t2 x265)], [(903, .vec 127 t127 x266), (3102, .vec 127 t127 (List.set x267 (toN x265) (wrapI .u32 (wrapI .u64 (Int.tdiv (wrapI .u64 ((wrapI .u64 (x264 * (1000000000 : Int))) + (wrapI .u64 (List.getD x261 (toN x265) (0 : Int))))) (wrapI .u64 x260))))))]⟩ (aC g_0 (aC g_1 (aC g_2 (aC g_3 aN)))) ?_
  obtain ⟨g_0, h⟩ := gd_elim h
  refine qE [] 3700 ⟨[(8, .d t127 x260), (11, .d t83 x261), (12, .sub 903 t127 x262 x263), (18, .d t12 (Int.tmod (wrapI .u64 ((wrapI .u64 (x264 * (1000000000 : Int))) + (wrapI .u64 (List.getD x261 (toN x265) (0 : Int))))) (wrapI .u64 x260))), (19, .vec 3102 t127), (20, .d t2 x265)], [(903, .vec 127 t127 x266), (3102, .vec 127 t127 (List.set x267 (toN x265) (wrapI .u32 (wrapI .u64 (Int.tdiv (wrapI .u64 ((wrapI .u64 (x264 * (1000000000 : Int))) + (wrapI .u64 (List.getD x261 (toN x265) (0 : Int))))) (wrapI .u64 x260))))))]⟩ (aC g_0 aN) ?_
  show Run Pg 173 _ _ _
  refine qE [] 3400 ⟨[(8, .d t127 x260), (11, .d t83 x261), (12, .sub 903 t127 x262 x263), (18, .d t12 (Int.tmod (wrapI .u64 ((wrapI .u64 (x264 * (1000000000 : Int))) + (wrapI .u64 (List.getD x261 (toN x265) (0 : Int))))) (wrapI .u64 x260))), (19, .vec 3102 t127), (20, .d t2 (wrapI .i64 (x265 - (1 : Int))))], [(903, .vec 127 t127 x266), (3102, .vec 127 t127 (List.set x267 (toN x265) (wrapI .u32 (wrapI .u64 (Int.tdiv (wrapI .u64 ((wrapI .u64 (x264 * (1000000000 : Int))) + (wrapI .u64 (List.getD x261 (toN x265) (0 : Int))))) (wrapI .u64 x260))))))]⟩ aN ?_
  exact ⟨m, Nat.lt_succ_self m, _, _, _, rfl, h⟩
 ·replace h := bif_f h hb
  refine qK ⟨[(12, .sub 903 t127 x262 x263), (19, .vec 3102 t127)], [(903, .vec 127 t127 x266), (3102, .vec 127 t127 x267)]⟩ ?_
  refine Run.ex 4 ?_
  obtain rfl := sI h
  exact ⟨rfl, by kernel_rfl⟩

def F124 (a0 : List Int) (a1 : List Int) : Option ((List Int) × (List Int)) :=
 (bif (decide ((ofN (List.length a0)) ≤ (2 : Int))) then
 (bif (decide ((ofN (List.length a1)) ≤ (2 : Int))) then
 (F125 a0).bind fun y1 =>
 (F125 a1).bind fun y2 =>
 gd (y2 ≠ 0) <|
 (F87 (wrapI .u64 (Int.tdiv y1 y2))).bind fun y3 =>
 gd (y2 ≠ 0) <|
 (F87 (Int.tmod y1 y2)).bind fun y4 =>
 some (y3, y4)
 else
 gd (0 ≤ (wrapI .i64 ((ofN (List.length a1)) - (1 : Int)))) <|
 gd ((wrapI .i64 ((ofN (List.length a1)) - (1 : Int))) < ((List.length a1 : Nat) : Int)) <|
 gd ((wrapI .u64 ((wrapI .u64 (List.getD a1 (toN (wrapI .i64 ((ofN (List.length a1)) - (1 : Int)))) (0 : Int))) + (1 : Int))) ≠ 0) <|
 (F138 a1 (wrapI .u32 (wrapI .u64 (Int.tdiv (1000000000 : Int) (wrapI .u64 ((wrapI .u64 (List.getD a1 (toN (wrapI .i64 ((ofN (List.length a1)) - (1 : Int)))) (0 : Int))) + (1 : Int))))))).bind fun y5 =>
 gd (0 ≤ (wrapI .i64 ((ofN (List.length y5)) - (1 : Int)))) <|
 gd ((wrapI .i64 ((ofN (List.length y5)) - (1 : Int))) < ((List.length y5 : Nat) : Int)) <|
 gd (0 ≤ (wrapI .i64 ((ofN (List.length a0)) + (1 : Int)))) <|
 gd ((wrapI .i64 ((ofN (List.length a0)) + (1 : Int))) ≤ (wrapI .i64 ((ofN (List.length a0)) + (1 : Int)))) <|
 gd ((wrapI .i64 ((ofN (List.length a0)) + (1 : Int))) ≤ 1073741824) <|
 (F138 a0 (wrapI .u32 (wrapI .u64 (Int.tdiv (1000000000 : Int) (wrapI .u64 ((wrapI .u64 (List.getD a1 (toN (wrapI .i64 ((ofN (List.length a1)) - (1 : Int)))) (0 : Int))) + (1 : Int))))))).bind fun y6 =>
 gd (0 < List.length (List.replicate (toN (wrapI .i64 ((ofN (List.length a0)) + (1 : Int)))) (0 : Int))) <|
 gd (0 ≤ (ofN (List.length y6))) <|
 gd ((ofN (List.length y6)) ≤ ((List.length (List.replicate (toN (wrapI .i64 ((ofN (List.length a0)) + (1 : Int)))) (0 : Int)) : Nat) : Int)) <|
 ((f124_l0 y5 (wrapI .u64 (List.getD y5 (toN (wrapI .i64 ((ofN (List.length y5)) - (1 : Int)))) (0 : Int))) (Int.toNat 0) ((Int.toNat (ofN (List.length y6))) - (Int.toNat 0)) y6 (2 + List.length y5 + List.length y6 + List.length ([] : List Int) + List.length (List.replicate (toN (wrapI .i64 ((ofN (List.length a0)) + (1 : Int)))) (0 : Int))) (([] : List Int), (wrapI .i64 ((ofN (List.length y6)) - (1 : Int))), (List.replicate (toN (wrapI .i64 ((ofN (List.length a0)) + (1 : Int)))) (0 : Int)))).bind fun o126 =>
 gd (0 ≤ (ofN (List.length o126.1))) <|
 gd ((ofN (List.length o126.1)) ≤ (ofN (List.length o126.1))) <|
 gd ((ofN (List.length o126.1)) ≤ 1073741824) <|
 ((f124_l5 (wrapI .u32 (wrapI .u64 (Int.tdiv (1000000000 : Int) (wrapI .u64 ((wrapI .u64 (List.getD a1 (toN (wrapI .i64 ((ofN (List.length a1)) - (1 : Int)))) (0 : Int))) + (1 : Int)))))) o126.1 (2 + List.length o126.1 + List.length o126.2 + List.length (List.replicate (toN (ofN (List.length o126.1))) (0 : Int))) ((0 : Int), (wrapI .i64 ((ofN (List.length o126.1)) - (1 : Int))), (List.replicate (toN (ofN (List.length o126.1))) (0 : Int)))).bind fun o135 =>
 (F103 (List.take ((Int.toNat (ofN (List.length y6))) - (Int.toNat 0)) (List.drop (Int.toNat 0) o126.2))).bind fun y136 =>
 (F103 o135).bind fun y137 =>
 some (y136, y137))))
 else
 gd (0 ≤ (wrapI .i64 ((ofN (List.length a1)) - (1 : Int)))) <|
 gd ((wrapI .i64 ((ofN (List.length a1)) - (1 : Int))) < ((List.length a1 : Nat) : Int)) <|
 gd ((wrapI .u64 ((wrapI .u64 (List.getD a1 (toN (wrapI .i64 ((ofN (List.length a1)) - (1 : Int)))) (0 : Int))) + (1 : Int))) ≠ 0) <|
 (F138 a1 (wrapI .u32 (wrapI .u64 (Int.tdiv (1000000000 : Int) (wrapI .u64 ((wrapI .u64 (List.getD a1 (toN (wrapI .i64 ((ofN (List.length a1)) - (1 : Int)))) (0 : Int))) + (1 : Int))))))).bind fun y138 =>
 gd (0 ≤ (wrapI .i64 ((ofN (List.length y138)) - (1 : Int)))) <|
 gd ((wrapI .i64 ((ofN (List.length y138)) - (1 : Int))) < ((List.length y138 : Nat) : Int)) <|
 gd (0 ≤ (wrapI .i64 ((ofN (List.length a0)) + (1 : Int)))) <|
 gd ((wrapI .i64 ((ofN (List.length a0)) + (1 : Int))) ≤ (wrapI .i64 ((ofN (List.length a0)) + (1 : Int)))) <|
 gd ((wrapI .i64 ((ofN (List.length a0)) + (1 : Int))) ≤ 1073741824) <|
 (F138 a0 (wrapI .u32 (wrapI .u64 (Int.tdiv (1000000000 : Int) (wrapI .u64 ((wrapI .u64 (List.getD a1 (toN (wrapI .i64 ((ofN (List.length a1)) - (1 : Int)))) (0 : Int))) + (1 : Int))))))).bind fun y139 =>
 gd (0 < List.length (List.replicate (toN (wrapI .i64 ((ofN (List.length a0)) + (1 : Int)))) (0 : Int))) <|
 gd (0 ≤ (ofN (List.length y139))) <|
 gd ((ofN (List.length y139)) ≤ ((List.length (List.replicate (toN (wrapI .i64 ((ofN (List.length a0)) + (1 : Int)))) (0 : Int)) : Nat) : Int)) <|
 ((f124_l6 y138 (wrapI .u64 (List.getD y138 (toN (wrapI .i64 ((ofN (List.length y138)) - (1 : Int)))) (0 : Int))) (Int.toNat 0) ((Int.toNat (ofN (List.length y139))) - (Int.toNat 0)) y139 (2 + List.length y138 + List.length y139 + List.length ([] : List Int) + List.length (List.replicate (toN (wrapI .i64 ((ofN (List.length a0)) + (1 : Int)))) (0 : Int))) (([] : List Int), (wrapI .i64 ((ofN (List.length y139)) - (1 : Int))), (List.replicate (toN (wrapI .i64 ((ofN (List.length a0)) + (1 : Int)))) (0 : Int)))).bind fun o259 =>
 gd (0 ≤ (ofN (List.length o259.1))) <|
 gd ((ofN (List.length o259.1)) ≤ (ofN (List.length o259.1))) <|
 gd ((ofN (List.length o259.1)) ≤ 1073741824) <|
 ((f124_l11 (wrapI .u32 (wrapI .u64 (Int.tdiv (1000000000 : Int) (wrapI .u64 ((wrapI .u64 (List.getD a1 (toN (wrapI .i64 ((ofN (List.length a1)) - (1 : Int)))) (0 : Int))) + (1 : Int)))))) o259.1 (2 + List.length o259.1 + List.length o259.2 + List.length (List.replicate (toN (ofN (List.length o259.1))) (0 : Int))) ((0 : Int), (wrapI .i64 ((ofN (List.length o259.1)) - (1 : Int))), (List.replicate (toN (ofN (List.length o259.1))) (0 : Int)))).bind fun o268 =>
 (F103 (List.take ((Int.toNat (ofN (List.length y139))) - (Int.toNat 0)) (List.drop (Int.toNat 0) o259.2))).bind fun y269 =>
 (F103 o268).bind fun y270 =>
 some (y269, y270))))

theorem c124 {a0 : List Int} {a1 : List Int} {r : (List Int) × (List Int)} (h : F124 a0 a1 = some r) : CallPure Pg 124 [(.d t83 a0), (.d t83 a1)] (.tup (.vcons (.d t83 r.1) (.vcons (.d t83 r.2) .vnil))) := by
 refine qC c_124 173 [.tmp 4, .tmp 5] [83, 83] Go.Proofs.Tryz.func124 ?_
 show Run Pg 173 c_124 ⟨[(0, .d t83 a0), (1, .d t83 a1)], []⟩ (fin124 r)
 unfold F124 at h
 refine qN [] 100 ⟨[(0, .d t83 a0), (1, .d t83 a1)], []⟩ aN ?_
 refine Run.sq ?_
 rcases bif_elim h with ⟨hb0, h⟩ | ⟨hb0, h⟩
 ·refine qN [(3, .b true)] 200 ⟨[(0, .d t83 a0), (1, .d t83 a1), (28, .d t4 (decide ((ofN (List.length a1)) ≤ (2 : Int))))], []⟩ (aC hb0 aN) ?_
  refine Run.cd (decide ((ofN (List.length a1)) ≤ (2 : Int))) (fun hb => ?_) (fun hb => ?_)
  ·replace h := bif_t h hb
   obtain ⟨y1, h_y1, h⟩ := bnd_elim h
   obtain ⟨y2, h_y2, h⟩ := bnd_elim h
   refine qN [(1, .call (.d t12 y1)), (3, .call (.d t12 y2))] 300 ⟨[(6, .d t12 y1), (7, .d t12 y2)], []⟩ (aC (c125 h_y1) (aC (c125 h_y2) aN)) ?_
   obtain ⟨g_0, h⟩ := gd_elim h
   obtain ⟨y3, h_y3, h⟩ := bnd_elim h
   obtain ⟨g_2, h⟩ := gd_elim h
   obtain ⟨y4, h_y4, h⟩ := bnd_elim h
   refine qN [(3, .call (.d t83 y3)), (7, .call (.d t83 y4))] 400 ⟨[(4, .d t83 y3), (5, .d t83 y4)], []⟩ (aC g_0 (aC (c87 h_y3) (aC g_2 (aC (c87 h_y4) aN)))) ?_
   refine Run.rt ?_
   obtain rfl := sI h
   exact qR [(.d t83 y3), (.d t83 y4)]
  ·replace h := bif_f h hb
   refine Run.sk ?_
   show Run Pg 173 _ _ _
   obtain ⟨g_0, h⟩ := gd_elim h
   obtain ⟨g_1, h⟩ := gd_elim h
   obtain ⟨g_2, h⟩ := gd_elim h
   refine qN [] 500 ⟨[(0, .d t83 a0), (1, .d t83 a1), (8, .d t127 (wrapI .u32 (wrapI .u64 (Int.tdiv (1000000000 : Int) (wrapI .u64 ((wrapI .u64 (List.getD a1 (toN (wrapI .i64 ((ofN (List.length a1)) - (1 : Int)))) (0 : Int))) + (1 : Int)))))))], []⟩ (aC g_0 (aC g_1 (aC g_2 aN))) ?_
   obtain ⟨y5, h_y5, h⟩ := bnd_elim h
   refine qN [(2, .call (.d t83 y5))] 600 ⟨[(0, .d t83 a0), (8, .d t127 (wrapI .u32 (wrapI .u64 (Int.tdiv (1000000000 : Int) (wrapI .u64 ((wrapI .u64 (List.getD a1 (toN (wrapI .i64 ((ofN (List.length a1)) - (1 : Int)))) (0 : Int))) + (1 : Int))))))), (9, .d t83 y5)], []⟩ (aC (c138 h_y5) aN) ?_
   obtain ⟨g_0, h⟩ := gd_elim h
   obtain ⟨g_1, h⟩ := gd_elim h
   refine qN [] 700 ⟨[(0, .d t83 a0), (8, .d t127 (wrapI .u32 (wrapI .u64 (Int.tdiv (1000000000 : Int) (wrapI .u64 ((wrapI .u64 (List.getD a1 (toN (wrapI .i64 ((ofN (List.length a1)) - (1 : Int)))) (0 : Int))) + (1 : Int))))))), (9, .d t83 y5), (10, .d t12 (wrapI .u64 (List.getD y5 (toN (wrapI .i64 ((ofN (List.length y5)) - (1 : Int)))) (0 : Int))))], []⟩ (aC g_0 (aC g_1 aN)) ?_
   refine qN [] 800 ⟨[(0, .d t83 a0), (8, .d t127 (wrapI .u32 (wrapI .u64 (Int.tdiv (1000000000 : Int) (wrapI .u64 ((wrapI .u64 (List.getD a1 (toN (wrapI .i64 ((ofN (List.length a1)) - (1 : Int)))) (0 : Int))) + (1 : Int))))))), (9, .d t83 y5), (10, .d t12 (wrapI .u64 (List.getD y5 (toN (wrapI .i64 ((ofN (List.length y5)) - (1 : Int)))) (0 : Int)))), (11, .nil)], []⟩ aN ?_
   obtain ⟨g_0, h⟩ := gd_elim h
   obtain ⟨g_1, h⟩ := gd_elim h
   obtain ⟨g_2, h⟩ := gd_elim h
   refine qN [] 900 ⟨[(0, .d t83 a0), (8, .d t127 (wrapI .u32 (wrapI .u64 (Int.tdiv (1000000000 : Int) (wrapI .u64 ((wrapI .u64 (List.getD a1 (toN (wrapI .i64 ((ofN (List.length a1)) - (1 : Int)))) (0 : Int))) + (1 : Int))))))), (9, .d t83 y5), (10, .d t12 (wrapI .u64 (List.getD y5 (toN (wrapI .i64 ((ofN (List.length y5)) - (1 : Int)))) (0 : Int)))), (11, .nil), (12, .vec 903 t127)], [(903, .vec 127 t127 (List.replicate (toN (wrapI .i64 ((ofN (List.length a0)) + (1 : Int)))) (0 : Int)))]⟩ (aC g_0 (aC g_1 (aC g_2 aN))) ?_
   obtain ⟨y6, h_y6, h⟩ := bnd_elim h
   refine qN [(2, .call (.d t83 y6))] 1000 ⟨[(8, .d t127 (wrapI .u32 (wrapI .u64 (Int.tdiv (1000000000 : Int) (wrapI .u64 ((wrapI .u64 (List.getD a1 (toN (wrapI .i64 ((ofN (List.length a1)) - (1 : Int)))) (0 : Int))) + (1 : Int))))))), (9, .d t83 y5), (10, .d t12 (wrapI .u64 (List.getD y5 (toN (wrapI .i64 ((ofN (List.length y5)) - (1 : Int)))) (0 : Int)))), (11, .nil), (12, .vec 903 t127), (13, .d t83 y6)], [(903, .vec 127 t127 (List.replicate (toN (wrapI .i64 ((ofN (List.length a0)) + (1 : Int)))) (0 : Int)))]⟩ (aC (c138 h_y6) aN) ?_
   obtain ⟨g_0, h⟩ := gd_elim h
   obtain ⟨g_1, h⟩ := gd_elim h
   obtain ⟨g_2, h⟩ := gd_elim h
   refine qN [] 1100 ⟨[(8, .d t127 (wrapI .u32 (wrapI .u64 (Int.tdiv (1000000000 : Int) (wrapI .u64 ((wrapI .u64 (List.getD a1 (toN (wrapI .i64 ((ofN (List.length a1)) - (1 : Int)))) (0 : Int))) + (1 : Int))))))), (9, .d t83 y5), (10, .d t12 (wrapI .u64 (List.getD y5 (toN (wrapI .i64 ((ofN (List.length y5)) - (1 : Int)))) (0 : Int)))), (11, .nil), (12, .sub 903 t127 (Int.toNat 0) ((Int.toNat (ofN (List.length y6))) - (Int.toNat 0))), (13, .d t83 y6)], [(903, .vec 127 t127 (List.replicate (toN (wrapI .i64 ((ofN (List.length a0)) + (1 : Int)))) (0 : Int)))]⟩ (aC g_0 (aC g_1 (aC g_2 aN))) ?_
   refine Run.sq ?_
   refine qN [] 1200 ⟨[(8, .d t127 (wrapI .u32 (wrapI .u64 (Int.tdiv (1000000000 : Int) (wrapI .u64 ((wrapI .u64 (List.getD a1 (toN (wrapI .i64 ((ofN (List.length a1)) - (1 : Int)))) (0 : Int))) + (1 : Int))))))), (9, .d t83 y5), (10, .d t12 (wrapI .u64 (List.getD y5 (toN (wrapI .i64 ((ofN (List.length y5)) - (1 : Int)))) (0 : Int)))), (11, .nil), (12, .sub 903 t127 (Int.toNat 0) ((Int.toNat (ofN (List.length y6))) - (Int.toNat 0))), (13, .d t83 y6), (14, .d t2 (wrapI .i64 ((ofN (List.length y6)) - (1 : Int))))], [(903, .vec 127 t127 (List.replicate (toN (wrapI .i64 ((ofN (List.length a0)) + (1 : Int)))) (0 : Int)))]⟩ aN ?_
   refine Run.bl 0 ?_
   refine Run.nilD (s' := ⟨[(11, .d t83 ([] : List Int)), (8, .d t127 (wrapI .u32 (wrapI .u64 (Int.tdiv (1000000000 : Int) (wrapI .u64 ((wrapI .u64 (List.getD a1 (toN (wrapI .i64 ((ofN (List.length a1)) - (1 : Int)))) (0 : Int))) + (1 : Int))))))), (9, .d t83 y5), (10, .d t12 (wrapI .u64 (List.getD y5 (toN (wrapI .i64 ((ofN (List.length y5)) - (1 : Int)))) (0 : Int)))), (11, .nil), (12, .sub 903 t127 (Int.toNat 0) ((Int.toNat (ofN (List.length y6))) - (Int.toNat 0))), (13, .d t83 y6), (14, .d t2 (wrapI .i64 ((ofN (List.length y6)) - (1 : Int))))], [(903, .vec 127 t127 (List.replicate (toN (wrapI .i64 ((ofN (List.length a0)) + (1 : Int)))) (0 : Int)))]⟩) 11 t127 (by kernel_rfl) ?_
   refine qK ⟨[(8, .d t127 (wrapI .u32 (wrapI .u64 (Int.tdiv (1000000000 : Int) (wrapI .u64 ((wrapI .u64 (List.getD a1 (toN (wrapI .i64 ((ofN (List.length a1)) - (1 : Int)))) (0 : Int))) + (1 : Int))))))), (9, .d t83 y5), (10, .d t12 (wrapI .u64 (List.getD y5 (toN (wrapI .i64 ((ofN (List.length y5)) - (1 : Int)))) (0 : Int)))), (11, .d t83 ([] : List Int)), (12, .sub 903 t127 (Int.toNat 0) ((Int.toNat (ofN (List.length y6))) - (Int.toNat 0))), (13, .d t83 y6), (14, .d t2 (wrapI .i64 ((ofN (List.length y6)) - (1 : Int))))], [(903, .vec 127 t127 (List.replicate (toN (wrapI .i64 ((ofN (List.length a0)) + (1 : Int)))) (0 : Int)))]⟩ ?_
   obtain ⟨o126, h_o126, h⟩ := bnd_elim h
   refine Run.mono (f124_l0_ok (wrapI .u32 (wrapI .u64 (Int.tdiv (1000000000 : Int) (wrapI .u64 ((wrapI .u64 (List.getD a1 (toN (wrapI .i64 ((ofN (List.length a1)) - (1 : Int)))) (0 : Int))) + (1 : Int)))))) y5 (wrapI .u64 (List.getD y5 (toN (wrapI .i64 ((ofN (List.length y5)) - (1 : Int)))) (0 : Int))) (Int.toNat 0) ((Int.toNat (ofN (List.length y6))) - (Int.toNat 0)) y6 _ ([] : List Int) (wrapI .i64 ((ofN (List.length y6)) - (1 : Int))) (List.replicate (toN (wrapI .i64 ((ofN (List.length a0)) + (1 : Int)))) (0 : Int)) h_o126) ?_
   rintro _ _ ⟨rfl, rfl⟩
   show Run Pg 173 _ _ _
   refine qN [] 3000 ⟨[(8, .d t127 (wrapI .u32 (wrapI .u64 (Int.tdiv (1000000000 : Int) (wrapI .u64 ((wrapI .u64 (List.getD a1 (toN (wrapI .i64 ((ofN (List.length a1)) - (1 : Int)))) (0 : Int))) + (1 : Int))))))), (11, .d t83 o126.1), (12, .sub 903 t127 (Int.toNat 0) ((Int.toNat (ofN (List.length y6))) - (Int.toNat 0))), (18, .d t12 (0 : Int))], [(903, .vec 127 t127 o126.2)]⟩ aN ?_
   obtain ⟨g_0, h⟩ := gd_elim h
   obtain ⟨g_1, h⟩ := gd_elim h
   obtain ⟨g_2, h⟩ := gd_elim h
   refine qN [] 3100 ⟨[(8, .d t127 (wrapI .u32 (wrapI .u64 (Int.tdiv (1000000000 : Int) (wrapI .u64 ((wrapI .u64 (List.getD a1 (toN (wrapI .i64 ((ofN (List.length a1)) - (1 : Int)))) (0 : Int))) + (1 : Int))))))), (11, .d t83 o126.1), (12, .sub 903 t127 (Int.toNat 0) ((Int.toNat (ofN (List.length y6))) - (Int.toNat 0))), (18, .d t12 (0 : Int)), (19, .vec 3102 t127)], [(903, .vec 127 t127 o126.2), (3102, .vec 127 t127 (List.replicate (toN (ofN (List.length o126.1))) (0 : Int)))]⟩ (aC g_0 (aC g_1 (aC g_2 aN))) ?_
   refine Run.sq ?_
   refine qN [] 3200 ⟨[(8, .d t127 (wrapI .u32 (wrapI .u64 (Int.tdiv (1000000000 : Int) (wrapI .u64 ((wrapI .u64 (List.getD a1 (toN (wrapI .i64 ((ofN (List.length a1)) - (1 : Int)))) (0 : Int))) + (1 : Int))))))), (11, .d t83 o126.1), (12, .sub 903 t127 (Int.toNat 0) ((Int.toNat (ofN (List.length y6))) - (Int.toNat 0))), (18, .d t12 (0 : Int)), (19, .vec 3102 t127), (20, .d t2 (wrapI .i64 ((ofN (List.length o126.1)) - (1 : Int))))], [(903, .vec 127 t127 o126.2), (3102, .vec 127 t127 (List.replicate (toN (ofN (List.length o126.1))) (0 : Int)))]⟩ aN ?_
   refine Run.bl 4 ?_
   obtain ⟨o135, h_o135, h⟩ := bnd_elim h
   refine Run.mono (f124_l5_ok (wrapI .u32 (wrapI .u64 (Int.tdiv (1000000000 : Int) (wrapI .u64 ((wrapI .u64 (List.getD a1 (toN (wrapI .i64 ((ofN (List.length a1)) - (1 : Int)))) (0 : Int))) + (1 : Int)))))) o126.1 (Int.toNat 0) ((Int.toNat (ofN (List.length y6))) - (Int.toNat 0)) o126.2 _ (0 : Int) (wrapI .i64 ((ofN (List.length o126.1)) - (1 : Int))) (List.replicate (toN (ofN (List.length o126.1))) (0 : Int)) h_o135) ?_
   rintro _ _ ⟨rfl, rfl⟩
   show Run Pg 173 _ _ _
   refine Run.freeze (s' := ⟨[(12, .d t83 (List.take ((Int.toNat (ofN (List.length y6))) - (Int.toNat 0)) (List.drop (Int.toNat 0) o126.2))), (19, .vec 3102 t127)], [(3102, .vec 127 t127 o135)]⟩) 903 (by kernel_rfl) ?_
   refine Run.freeze (s' := ⟨[(12, .d t83 (List.take ((Int.toNat (ofN (List.length y6))) - (Int.toNat 0)) (List.drop (Int.toNat 0) o126.2))), (19, .d t83 o135)], []⟩) 3102 (by kernel_rfl) ?_
   obtain ⟨y136, h_y136, h⟩ := bnd_elim h
   obtain ⟨y137, h_y137, h⟩ := bnd_elim h
   refine qN [(1, .call (.d t83 y136)), (3, .call (.d t83 y137))] 3800 ⟨[(4, .d t83 y136), (5, .d t83 y137)], []⟩ (aC (c103 h_y136) (aC (c103 h_y137) aN)) ?_
   refine Run.rt ?_
   obtain rfl := sI h
   exact qR [(.d t83 y136), (.d t83 y137)]
 ·refine qN [(3, .b false)] 200 ⟨[(0, .d t83 a0), (1, .d t83 a1), (28, .d t4 false)], []⟩ (aC hb0 aN) ?_
  refine Run.cd false (fun hb => (by cases hb)) (fun hb => ?_)
  refine Run.sk ?_
  show Run Pg 173 _ _ _
  obtain ⟨g_0, h⟩ := gd_elim h
  obtain ⟨g_1, h⟩ := gd_elim h
  obtain ⟨g_2, h⟩ := gd_elim h
  refine qN [] 500 ⟨[(0, .d t83 a0), (1, .d t83 a1), (8, .d t127 (wrapI .u32 (wrapI .u64 (Int.tdiv (1000000000 : Int) (wrapI .u64 ((wrapI .u64 (List.getD a1 (toN (wrapI .i64 ((ofN (List.length a1)) - (1 : Int)))) (0 : Int))) + (1 : Int)))))))], []⟩ (aC g_0 (aC g_1 (aC g_2 aN))) ?_
  obtain ⟨y138, h_y138, h⟩ := bnd_elim h
  refine qN [(2, .call (.d t83 y138))] 600 ⟨[(0, .d t83 a0), (8, .d t127 (wrapI .u32 (wrapI .u64 (Int.tdiv (1000000000 : Int) (wrapI .u64 ((wrapI .u64 (List.getD a1 (toN (wrapI .i64 ((ofN (List.length a1)) - (1 : Int)))) (0 : Int))) + (1 : Int))))))), (9, .d t83 y138)], []⟩ (aC (c138 h_y138) aN) ?_
  obtain ⟨g_0, h⟩ := gd_elim h
  obtain ⟨g_1, h⟩ := gd_elim h
  refine qN [] 700 ⟨[(0, .d t83 a0), (8, .d t127 (wrapI .u32 (wrapI .u64 (Int.tdiv (1000000000 : Int) (wrapI .u64 ((wrapI .u64 (List.getD a1 (toN (wrapI .i64 ((ofN (List.length a1)) - (1 : Int)))) (0 : Int))) + (1 : Int))))))), (9, .d t83 y138), (10, .d t12 (wrapI .u64 (List.getD y138 (toN (wrapI .i64 ((ofN (List.length y138)) - (1 : Int)))) (0 : Int))))], []⟩ (aC g_0 (aC g_1 aN)) ?_
  refine qN [] 800 ⟨[(0, .d t83 a0), (8, .d t127 (wrapI .u32 (wrapI .u64 (Int.tdiv (1000000000 : Int) (wrapI .u64 ((wrapI .u64 (List.getD a1 (toN (wrapI .i64 ((ofN (List.length a1)) - (1 : Int)))) (0 : Int))) + (1 : Int))))))), (9, .d t83 y138), (10, .d t12 (wrapI .u64 (List.getD y138 (toN (wrapI .i64 ((ofN (List.length y138)) - (1 : Int)))) (0 : Int)))), (11, .nil)], []⟩ aN ?_
  obtain ⟨g_0, h⟩ := gd_elim h
  obtain ⟨g_1, h⟩ := gd_elim h
  obtain ⟨g_2, h⟩ := gd_elim h
  refine qN [] 900 ⟨[(0, .d t83 a0), (8, .d t127 (wrapI .u32 (wrapI .u64 (Int.tdiv (1000000000 : Int) (wrapI .u64 ((wrapI .u64 (List.getD a1 (toN (wrapI .i64 ((ofN (List.length a1)) - (1 : Int)))) (0 : Int))) + (1 : Int))))))), (9, .d t83 y138), (10, .d t12 (wrapI .u64 (List.getD y138 (toN (wrapI .i64 ((ofN (List.length y138)) - (1 : Int)))) (0 : Int)))), (11, .nil), (12, .vec 903 t127)], [(903, .vec 127 t127 (List.replicate (toN (wrapI .i64 ((ofN (List.length a0)) + (1 : Int)))) (0 : Int)))]⟩ (aC g_0 (aC g_1 (aC g_2 aN))) ?_
  obtain ⟨y139, h_y139, h⟩ := bnd_elim h
  refine qN [(2, .call (.d t83 y139))] 1000 ⟨[(8, .d t127 (wrapI .u32 (wrapI .u64 (Int.tdiv (1000000000 : Int) (wrapI .u64 ((wrapI .u64 (List.getD a1 (toN (wrapI .i64 ((ofN (List.length a1)) - (1 : Int)))) (0 : Int))) + (1 : Int))))))), (9, .d t83 y138), (10, .d t12 (wrapI .u64 (List.getD y138 (toN (wrapI .i64 ((ofN (List.length y138)) - (1 : Int)))) (0 : Int)))), (11, .nil), (12, .vec 903 t127), (13, .d t83 y139)], [(903, .vec 127 t127 (List.replicate (toN (wrapI .i64 ((ofN (List.length a0)) + (1 : Int)))) (0 : Int)))]⟩ (aC (c138 h_y139) aN) ?_
  obtain ⟨g_0, h⟩ := gd_elim h
  obtain ⟨g_1, h⟩ := gd_elim h
  obtain ⟨g_2, h⟩ := gd_elim h
  refine qN [] 1100 ⟨[(8, .d t127 (wrapI .u32 (wrapI .u64 (Int.tdiv (1000000000 : Int) (wrapI .u64 ((wrapI .u64 (List.getD a1 (toN (wrapI .i64 ((ofN (List.length a1)) - (1 : Int)))) (0 : Int))) + (1 : Int))))))), (9, .d t83 y138), (10, .d t12 (wrapI .u64 (List.getD y138 (toN (wrapI .i64 ((ofN (List.length y138)) - (1 : Int)))) (0 : Int)))), (11, .nil), (12, .sub 903 t127 (Int.toNat 0) ((Int.toNat (ofN (List.length y139))) - (Int.toNat 0))), (13, .d t83 y139)], [(903, .vec 127 t127 (List.replicate (toN (wrapI .i64 ((ofN (List.length a0)) + (1 : Int)))) (0 : Int)))]⟩ (aC g_0 (aC g_1 (aC g_2 aN))) ?_
  refine Run.sq ?_
  refine qN [] 1200 ⟨[(8, .d t127 (wrapI .u32 (wrapI .u64 (Int.tdiv (1000000000 : Int) (wrapI .u64 ((wrapI .u64 (List.getD a1 (toN (wrapI .i64 ((ofN (List.length a1)) - (1 : Int)))) (0 : Int))) + (1 : Int))))))), (9, .d t83 y138), (10, .d t12 (wrapI .u64 (List.getD y138 (toN (wrapI .i64 ((ofN (List.length y138)) - (1 : Int)))) (0 : Int)))), (11, .nil), (12, .sub 903 t127 (Int.toNat 0) ((Int.toNat (ofN (List.length y139))) - (Int.toNat 0))), (13, .d t83 y139), (14, .d t2 (wrapI .i64 ((ofN (List.length y139)) - (1 : Int))))], [(903, .vec 127 t127 (List.replicate (toN (wrapI .i64 ((ofN (List.length a0)) + (1 : Int)))) (0 : Int)))]⟩ aN ?_
  refine Run.bl 0 ?_
  refine Run.nilD (s' := ⟨[(11, .d t83 ([] : List Int)), (8, .d t127 (wrapI .u32 (wrapI .u64 (Int.tdiv (1000000000 : Int) (wrapI .u64 ((wrapI .u64 (List.getD a1 (toN (wrapI .i64 ((ofN (List.length a1)) - (1 : Int)))) (0 : Int))) + (1 : Int))))))), (9, .d t83 y138), (10, .d t12 (wrapI .u64 (List.getD y138 (toN (wrapI .i64 ((ofN (List.length y138)) - (1 : Int)))) (0 : Int)))), (11, .nil), (12, .sub 903 t127 (Int.toNat 0) ((Int.toNat (ofN (List.length y139))) - (Int.toNat 0))), (13, .d t83 y139), (14, .d t2 (wrapI .i64 ((ofN (List.length y139)) - (1 : Int))))], [(903, .vec 127 t127 (List.replicate (toN (wrapI .i64 ((ofN (List.length a0)) + (1 : Int)))) (0 : Int)))]⟩) 11 t127 (by kernel_rfl) ?_
  refine qK ⟨[(8, .d t127 (wrapI .u32 (wrapI .u64 (Int.tdiv (1000000000 : Int) (wrapI .u64 ((wrapI .u64 (List.getD a1 (toN (wrapI .i64 ((ofN (List.length a1)) - (1 : Int)))) (0 : Int))) + (1 : Int))))))), (9, .d t83 y138), (10, .d t12 (wrapI .u64 (List.getD y138 (toN (wrapI .i64 ((ofN (List.length y138)) - (1 : Int)))) (0 : Int)))), (11, .d t83 ([] : List Int)), (12, .sub 903 t127 (Int.toNat 0) ((Int.toNat (ofN (List.length y139))) - (Int.toNat 0))), (13, .d t83 y139), (14, .d t2 (wrapI .i64 ((ofN (List.length y139)) - (1 : Int))))], [(903, .vec 127 t127 (List.replicate (toN (wrapI .i64 ((ofN (List.length a0)) + (1 : Int)))) (0 : Int)))]⟩ ?_
  obtain ⟨o259, h_o259, h⟩ := bnd_elim h
  refine Run.mono (f124_l6_ok (wrapI .u32 (wrapI .u64 (Int.tdiv (1000000000 : Int) (wrapI .u64 ((wrapI .u64 (List.getD a1 (toN (wrapI .i64 ((ofN (List.length a1)) - (1 : Int)))) (0 : Int))) + (1 : Int)))))) y138 (wrapI .u64 (List.getD y138 (toN (wrapI .i64 ((ofN (List.length y138)) - (1 : Int)))) (0 : Int))) (Int.toNat 0) ((Int.toNat (ofN (List.length y139))) - (Int.toNat 0)) y139 _ ([] : List Int) (wrapI .i64 ((ofN (List.length y139)) - (1 : Int))) (List.replicate (toN (wrapI .i64 ((ofN (List.length a0)) + (1 : Int)))) (0 : Int)) h_o259) ?_
  rintro _ _ ⟨rfl, rfl⟩
  show Run Pg 173 _ _ _
  refine qN [] 3000 ⟨[(8, .d t127 (wrapI .u32 (wrapI .u64 (Int.tdiv (1000000000 : Int) (wrapI .u64 ((wrapI .u64 (List.getD a1 (toN (wrapI .i64 ((ofN (List.length a1)) - (1 : Int)))) (0 : Int))) + (1 : Int))))))), (11, .d t83 o259.1), (12, .sub 903 t127 (Int.toNat 0) ((Int.toNat (ofN (List.length y139))) - (Int.toNat 0))), (18, .d t12 (0 : Int))], [(903, .vec 127 t127 o259.2)]⟩ aN ?_
  obtain ⟨g_0, h⟩ := gd_elim h
  obtain ⟨g_1, h⟩ := gd_elim h
  obtain ⟨g_2, h⟩ := gd_elim h
  refine qN [] 3100 ⟨[(8, .d t127 (wrapI .u32 (wrapI .u64 (Int.tdiv (1000000000 : Int) (wrapI .u64 ((wrapI .u64 (List.getD a1 (toN (wrapI .i64 ((ofN (List.length a1)) - (1 : Int)))) (0 : Int))) + (1 : Int))))))), (11, .d t83 o259.1), (12, .sub 903 t127 (Int.toNat 0) ((Int.toNat (ofN (List.length y139))) - (Int.toNat 0))), (18, .d t12 (0 : Int)), (19, .vec 3102 t127)], [(903, .vec 127 t127 o259.2), (3102, .vec 127 t127 (List.replicate (toN (ofN (List.length o259.1))) (0 : Int)))]⟩ (aC g_0 (aC g_1 (aC g_2 aN))) ?_
  refine Run.sq ?_
  refine qN [] 3200 ⟨[(8, .d t127 (wrapI .u32 (wrapI .u64 (Int.tdiv (1000000000 : Int) (wrapI .u64 ((wrapI .u64 (List.getD a1 (toN (wrapI .i64 ((ofN (List.length a1)) - (1 : Int)))) (0 : Int))) + (1 : Int))))))), (11, .d t83 o259.1), (12, .sub 903 t127 (Int.toNat 0) ((Int.toNat (ofN (List.length y139))) - (Int.toNat 0))), (18, .d t12 (0 : Int)), (19, .vec 3102 t127), (20, .d t2 (wrapI .i64 ((ofN (List.length o259.1)) - (1 : Int))))], [(903, .vec 127 t127 o259.2), (3102, .vec 127 t127 (List.replicate (toN (ofN (List.length o259.1))) (0 : Int)))]⟩ aN ?_
  refine Run.bl 4 ?_
  obtain ⟨o268, h_o268, h⟩ := bnd_elim h
  refine Run.mono (f124_l11_ok (wrapI .u32 (wrapI .u64 (Int.tdiv (1000000000 : Int) (wrapI .u64 ((wrapI .u64 (List.getD a1 (toN (wrapI .i64 ((ofN (List.length a1)) - (1 : Int)))) (0 : Int))) + (1 : Int)))))) o259.1 (Int.toNat 0) ((Int.toNat (ofN (List.length y139))) - (Int.toNat 0)) o259.2 _ (0 : Int) (wrapI .i64 ((ofN (List.length o259.1)) - (1 : Int))) (List.replicate (toN (ofN (List.length o259.1))) (0 : Int)) h_o268) ?_
  rintro _ _ ⟨rfl, rfl⟩
  show Run Pg 173 _ _ _
  refine Run.freeze (s' := ⟨[(12, .d t83 (List.take ((Int.toNat (ofN (List.length y139))) - (Int.toNat 0)) (List.drop (Int.toNat 0) o259.2))), (19, .vec 3102 t127)], [(3102, .vec 127 t127 o268)]⟩) 903 (by kernel_rfl) ?_
  refine Run.freeze (s' := ⟨[(12, .d t83 (List.take ((Int.toNat (ofN (List.length y139))) - (Int.toNat 0)) (List.drop (Int.toNat 0) o259.2))), (19, .d t83 o268)], []⟩) 3102 (by kernel_rfl) ?_
  obtain ⟨y269, h_y269, h⟩ := bnd_elim h
  obtain ⟨y270, h_y270, h⟩ := bnd_elim h
  refine qN [(1, .call (.d t83 y269)), (3, .call (.d t83 y270))] 3800 ⟨[(4, .d t83 y269), (5, .d t83 y270)], []⟩ (aC (c103 h_y269) (aC (c103 h_y270) aN)) ?_
  refine Run.rt ?_
  obtain rfl := sI h
  exact qR [(.d t83 y269), (.d t83 y270)]

/-! ## f112 -/

noncomputable def c_112 : Code := body0 Go.Proofs.Tryz.f112

def fin112 (r : IntL) : Ex → St → Prop := endK X0 [.cell 4 85] [85] (.d t84 r)

def f112_l0_post (x3 : IntL) : ((List Int) × (List Int)) → Ex → St → Prop
 | o, x, s => x = .out 0 ∧ s = ⟨[(4, .ptr 102 0), (5, .d t83 o.1), (6, .d t83 o.2)], [(102, bx t84 x3)]⟩

def f112_l0_b  (again : (List Int) × (List Int) → Option ((List Int) × (List Int))) : (List Int) × (List Int) → Option ((List Int) × (List Int))
 | (x1, x2) =>
 (bif (decide ((0 : Int) < (ofN (List.length x2)))) then
 (bif (decide ((2 : Int) < (ofN (List.length x1)))) then
 (F124 x1 x2).bind fun y6 =>
 again (x2, y6.2)
 else
 (bif (decide ((2 : Int) < (ofN (List.length x2)))) then
 (F124 x1 x2).bind fun y7 =>
 again (x2, y7.2)
 else
 some (x1, x2)))
 else
 some (x1, x2))

def f112_l0  : Nat → (List Int) × (List Int) → Option ((List Int) × (List Int)) := loopF (f112_l0_b )

theorem f112_l0_ok (x3 : IntL) (k : Nat) (x1 : List Int) (x2 : List Int) {out : ((List Int) × (List Int))} (h : f112_l0  k (x1, x2) = some out) : Run Pg 54 (bk1 (sq1 (sq2 (sq2 c_112)))) ⟨[(4, .ptr 102 0), (5, .d t83 x1), (6, .d t83 x2)], [(102, bx t84 x3)]⟩ (f112_l0_post x3 out) := by
 refine Run.loopN (by kernel_rfl) (fun m s => ∃ x1 x2, s = ⟨[(4, .ptr 102 0), (5, .d t83 x1), (6, .d t83 x2)], [(102, bx t84 x3)]⟩ ∧ f112_l0  m (x1, x2) = some out) ?_ k ⟨x1, x2,  rfl, h⟩
 rintro m s ⟨x1, x2,  rfl, h⟩
 cases m with
 | zero => cases h
 | succ m =>
 replace h : f112_l0_b  (f112_l0  m) (x1, x2) = some out := h
 unfold f112_l0_b at h
 refine Run.sq ?_
 rcases bif_elim h with ⟨hb0, h⟩ | ⟨hb0, h⟩
 ·rcases bif_elim h with ⟨hb1, h⟩ | ⟨hb1, h⟩
  ·refine qN [(3, .b true), (7, .b true)] 300 ⟨[(4, .ptr 102 0), (5, .d t83 x1), (6, .d t83 x2), (27, .d t4 true)], [(102, bx t84 x3)]⟩ (aC hb0 (aC hb1 aN)) ?_
   refine Run.cd true (fun hb => ?_) (fun hb => (by cases hb))
   refine Run.sk ?_
   show Run Pg 54 _ _ _
   refine Run.bl 1 ?_
   obtain ⟨y6, h_y6, h⟩ := bnd_elim h
   refine qN [(2, .call (.tup (.vcons (.d t83 y6.1) (.vcons (.d t83 y6.2) .vnil))))] 400 ⟨[(4, .ptr 102 0), (6, .d t83 x2), (8, .d t83 y6.2)], [(102, bx t84 x3)]⟩ (aC (c124 h_y6) aN) ?_
   refine qE [] 500 ⟨[(4, .ptr 102 0), (5, .d t83 x2), (6, .d t83 y6.2)], [(102, bx t84 x3)]⟩ aN ?_
   exact ⟨m, Nat.lt_succ_self m, _, _, rfl, h⟩
  ·refine qN [(3, .b true), (7, .b false)] 300 ⟨[(4, .ptr 102 0), (5, .d t83 x1), (6, .d t83 x2), (27, .d t4 (decide ((2 : Int) < (ofN (List.length x2)))))], [(102, bx t84 x3)]⟩ (aC hb0 (aC hb1 aN)) ?_
   refine Run.cd (decide ((2 : Int) < (ofN (List.length x2)))) (fun hb => ?_) (fun hb => ?_)
   ·replace h := bif_t h hb
    refine Run.sk ?_
    show Run Pg 54 _ _ _
    refine Run.bl 1 ?_
    obtain ⟨y7, h_y7, h⟩ := bnd_elim h
    refine qN [(2, .call (.tup (.vcons (.d t83 y7.1) (.vcons (.d t83 y7.2) .vnil))))] 400 ⟨[(4, .ptr 102 0), (6, .d t83 x2), (8, .d t83 y7.2)], [(102, bx t84 x3)]⟩ (aC (c124 h_y7) aN) ?_
    refine qE [] 500 ⟨[(4, .ptr 102 0), (5, .d t83 x2), (6, .d t83 y7.2)], [(102, bx t84 x3)]⟩ aN ?_
    exact ⟨m, Nat.lt_succ_self m, _, _, rfl, h⟩
   ·replace h := bif_f h hb
    refine qK ⟨[(4, .ptr 102 0), (5, .d t83 x1), (6, .d t83 x2)], [(102, bx t84 x3)]⟩ ?_
    refine Run.ex 0 ?_
    obtain rfl := sI h
    exact ⟨rfl, by kernel_rfl⟩
 ·refine qN [(3, .b false)] 300 ⟨[(4, .ptr 102 0), (5, .d t83 x1), (6, .d t83 x2), (27, .d t4 false)], [(102, bx t84 x3)]⟩ (aC hb0 aN) ?_
  refine Run.cd false (fun hb => (by cases hb)) (fun hb => ?_)
  refine qK ⟨[(4, .ptr 102 0), (5, .d t83 x1), (6, .d t83 x2)], [(102, bx t84 x3)]⟩ ?_
  refine Run.ex 0 ?_
  obtain rfl := sI h
  exact ⟨rfl, by kernel_rfl⟩

def f112_l1_post (x14 : IntL) : (Int) → Ex → St → Prop
 | o, x, s => x = .out 2 ∧ s = ⟨[(4, .ptr 102 0), (9, .d t12 o)], [(102, bx t84 x14)]⟩

def f112_l1_b  (again : Int × Int → Option (Int)) : Int × Int → Option (Int)
 | (x12, x13) =>
 (bif (decide ((0 : Int) < x13)) then
 gd (x13 ≠ 0) <|
 again (x13, (Int.tmod x12 x13))
 else
 some x12)

def f112_l1  : Nat → Int × Int → Option (Int) := loopF (f112_l1_b )

theorem f112_l1_ok (x14 : IntL) (k : Nat) (x12 : Int) (x13 : Int) {out : (Int)} (h : f112_l1  k (x12, x13) = some out) : Run Pg 54 (bk1 (sq1 (sq2 (sq2 (sq2 (sq2 (sq2 c_112))))))) ⟨[(4, .ptr 102 0), (9, .d t12 x12), (10, .d t12 x13)], [(102, bx t84 x14)]⟩ (f112_l1_post x14 out) := by
 refine Run.loopN (by kernel_rfl) (fun m s => ∃ x12 x13, s = ⟨[(4, .ptr 102 0), (9, .d t12 x12), (10, .d t12 x13)], [(102, bx t84 x14)]⟩ ∧ f112_l1  m (x12, x13) = some out) ?_ k ⟨x12, x13,  rfl, h⟩
 rintro m s ⟨x12, x13,  rfl, h⟩
 cases m with
 | zero => cases h
 | succ m =>
 replace h : f112_l1_b  (f112_l1  m) (x12, x13) = some out := h
 unfold f112_l1_b at h
 refine Run.sq ?_
 refine qN [] 900 ⟨[(4, .ptr 102 0), (9, .d t12 x12), (10, .d t12 x13), (46, .d t4 (decide ((0 : Int) < x13)))], [(102, bx t84 x14)]⟩ aN ?_
 refine Run.cd (decide ((0 : Int) < x13)) (fun hb => ?_) (fun hb => ?_)
 ·replace h := bif_t h hb
  refine Run.sk ?_
  show Run Pg 54 _ _ _
  refine Run.bl 3 ?_
  obtain ⟨g_0, h⟩ := gd_elim h
  refine qE [] 1000 ⟨[(4, .ptr 102 0), (9, .d t12 x13), (10, .d t12 (Int.tmod x12 x13))], [(102, bx t84 x14)]⟩ (aC g_0 aN) ?_
  exact ⟨m, Nat.lt_succ_self m, _, _, rfl, h⟩
 ·replace h := bif_f h hb
  refine qK ⟨[(4, .ptr 102 0), (9, .d t12 x12)], [(102, bx t84 x14)]⟩ ?_
  refine Run.ex 2 ?_
  obtain rfl := sI h
  exact ⟨rfl, by kernel_rfl⟩

def F112 (a0 : IntL) (a1 : IntL) : Option (IntL) :=
 ((f112_l0  (2 + valF a1.2) (a0.2, a1.2)).bind fun o8 =>
 (bif ((ofN (List.length o8.2)) == (0 : Int)) then
 (F82 false o8.1).bind fun y9 =>
 some y9
 else
 (F125 o8.1).bind fun y10 =>
 (F125 o8.2).bind fun y11 =>
 ((f112_l1  (2 + Int.toNat y11) (y10, y11)).bind fun o15 =>
 (F87 o15).bind fun y16 =>
 (F82 false y16).bind fun y17 =>
 some y17)))

theorem c112 {a0 : IntL} {a1 : IntL} {r : IntL} (h : F112 a0 a1 = some r) : CallPure Pg 112 [(.d t84 a0), (.d t84 a1)] (.d t84 r) := by
 refine qC c_112 54 [.cell 4 85] [85] Go.Proofs.Tryz.func112 ?_
 show Run Pg 54 c_112 ⟨[(0, .d t84 a0), (1, .d t84 a1)], []⟩ (fin112 r)
 unfold F112 at h
 refine qN [] 100 ⟨[(2, .ptr 100 0), (3, .ptr 101 0), (4, .ptr 102 0)], [(100, bx t84 a0), (101, bx t84 a1), (102, bx t84 (false, ([] : List Int)))]⟩ aN ?_
 refine qN [] 200 ⟨[(4, .ptr 102 0), (5, .d t83 a0.2), (6, .d t83 a1.2)], [(102, bx t84 (false, ([] : List Int)))]⟩ aN ?_
 refine Run.sq ?_
 refine Run.bl 0 ?_
 obtain ⟨o8, h_o8, h⟩ := bnd_elim h
 refine Run.mono (f112_l0_ok (false, ([] : List Int)) _ a0.2 a1.2 h_o8) ?_
 rintro _ _ ⟨rfl, rfl⟩
 show Run Pg 54 _ _ _
 refine Run.sq ?_
 refine qN [] 600 ⟨[(4, .ptr 102 0), (5, .d t83 o8.1), (6, .d t83 o8.2), (38, .d t4 ((ofN (List.length o8.2)) == (0 : Int)))], [(102, bx t84 (false, ([] : List Int)))]⟩ aN ?_
 refine Run.cd ((ofN (List.length o8.2)) == (0 : Int)) (fun hb => ?_) (fun hb => ?_)
 ·replace h := bif_t h hb
  obtain ⟨y9, h_y9, h⟩ := bnd_elim h
  refine qN [(1, .call (.d t84 y9))] 700 ⟨[(4, .ptr 102 0)], [(102, bx t84 y9)]⟩ (aC (c82 h_y9) aN) ?_
  refine Run.rt ?_
  obtain rfl := sI h
  exact qR [(.d t84 y9)]
 ·replace h := bif_f h hb
  refine Run.sk ?_
  show Run Pg 54 _ _ _
  obtain ⟨y10, h_y10, h⟩ := bnd_elim h
  obtain ⟨y11, h_y11, h⟩ := bnd_elim h
  refine qN [(1, .call (.d t12 y10)), (3, .call (.d t12 y11))] 800 ⟨[(4, .ptr 102 0), (9, .d t12 y10), (10, .d t12 y11)], [(102, bx t84 (false, ([] : List Int)))]⟩ (aC (c125 h_y10) (aC (c125 h_y11) aN)) ?_
  refine Run.sq ?_
  refine Run.bl 2 ?_
  obtain ⟨o15, h_o15, h⟩ := bnd_elim h
  refine Run.mono (f112_l1_ok (false, ([] : List Int)) _ y10 y11 h_o15) ?_
  rintro _ _ ⟨rfl, rfl⟩
  show Run Pg 54 _ _ _
  obtain ⟨y16, h_y16, h⟩ := bnd_elim h
  obtain ⟨y17, h_y17, h⟩ := bnd_elim h
  refine qN [(1, .call (.d t83 y16)), (2, .call (.d t84 y17))] 1100 ⟨[(4, .ptr 102 0)], [(102, bx t84 y17)]⟩ (aC (c87 h_y16) (aC (c82 h_y17) aN)) ?_
  refine Run.rt ?_
  obtain rfl := sI h
  exact qR [(.d t84 y17)]

/-! ## f126 -/

noncomputable def c_126 : Code := body0 Go.Proofs.Tryz.f126

def fin126 (r : IntL) : Ex → St → Prop := endK X0 [.cell 4 85] [85] (.d t84 r)

def F126 (a0 : IntL) (a1 : IntL) : Option (IntL) :=
 (F111 a1).bind fun y1 =>
 (F127 a0 y1).bind fun y2 =>
 some y2

theorem c126 {a0 : IntL} {a1 : IntL} {r : IntL} (h : F126 a0 a1 = some r) : CallPure Pg 126 [(.d t84 a0), (.d t84 a1)] (.d t84 r) := by
 refine qC c_126 9 [.cell 4 85] [85] Go.Proofs.Tryz.func126 ?_
 show Run Pg 9 c_126 ⟨[(0, .d t84 a0), (1, .d t84 a1)], []⟩ (fin126 r)
 unfold F126 at h
 refine qN [] 100 ⟨[(2, .ptr 100 0), (3, .ptr 101 0), (4, .ptr 102 0)], [(100, bx t84 a0), (101, bx t84 a1), (102, bx t84 (false, ([] : List Int)))]⟩ aN ?_
 obtain ⟨y1, h_y1, h⟩ := bnd_elim h
 obtain ⟨y2, h_y2, h⟩ := bnd_elim h
 refine qN [(2, .call (.d t84 y1)), (3, .call (.d t84 y2))] 200 ⟨[(4, .ptr 102 0)], [(102, bx t84 y2)]⟩ (aC (c111 h_y1) (aC (c127 h_y2) aN)) ?_
 refine Run.rt ?_
 obtain rfl := sI h
 exact qR [(.d t84 y2)]

/-! ## f113 -/

noncomputable def c_113 : Code := body0 Go.Proofs.Tryz.f113

def fin113 (r : IntL × IntL × Int) : Ex → St → Prop := endK X0 [.cell 4 85, .cell 5 85, .tmp 6] [85, 85, 41] (.tup (.vcons (.d t84 r.1) (.vcons (.d t84 r.2.1) (.vcons (.d t2 r.2.2) .vnil))))

def f113_c0_post (x4 : Bool) (x5 : IntL) (x6 : IntL) (x7 : IntL) (x8 : IntL) : RatL → Ex → St → Prop
 | o, x, s => x = .nrm ∧ s = ⟨[(4, .ptr 102 0), (5, .ptr 103 0), (9, .ptr 511 0), (10, .ptr 512 0)], [(102, bx t84 x6), (103, bx t84 x6), (511, bx t84 o.1), (512, bx t84 o.2)]⟩

def f113_c0 (x4 : Bool) (x5 : IntL) (x7 : IntL) (x8 : IntL) : Option RatL :=
 (bif x4 then
 (F70 (1 : Int)).bind fun y12 =>
 (F126 x7 y12).bind fun y13 =>
 (F127 x8 x5).bind fun y14 =>
 some (y13, y14)
 else
 some (x7, x8))

theorem f113_c0_ok (x4 : Bool) (x5 : IntL) (x6 : IntL) (x7 : IntL) (x8 : IntL) {out : RatL} (h : f113_c0 x4 x5 x7 x8 = some out) : Run Pg 54 (sq2 (sq1 (sq2 (sq2 (sq2 (sq2 c_113)))))) ⟨[(3, .ptr 101 0), (4, .ptr 102 0), (5, .ptr 103 0), (9, .ptr 511 0), (10, .ptr 512 0), (45, .d t4 x4)], [(101, bx t84 x5), (102, bx t84 x6), (103, bx t84 x6), (511, bx t84 x7), (512, bx t84 x8)]⟩ (f113_c0_post x4 x5 x6 x7 x8 out) := by
 unfold f113_c0 at h
 refine Run.cd x4 (fun hb => ?_) (fun hb => ?_)
 ·replace h := bif_t h hb
  obtain ⟨y12, h_y12, h⟩ := bnd_elim h
  obtain ⟨y13, h_y13, h⟩ := bnd_elim h
  obtain ⟨y14, h_y14, h⟩ := bnd_elim h
  refine qE [(1, .call (.d t84 y12)), (2, .call (.d t84 y13)), (5, .call (.d t84 y14))] 700 ⟨[(4, .ptr 102 0), (5, .ptr 103 0), (9, .ptr 511 0), (10, .ptr 512 0)], [(102, bx t84 x6), (103, bx t84 x6), (511, bx t84 y13), (512, bx t84 y14)]⟩ (aC (c70 h_y12) (aC (c126 h_y13) (aC (c127 h_y14) aN))) ?_
  obtain rfl := sI h
  exact ⟨rfl, by kernel_rfl⟩
 ·replace h := bif_f h hb
  refine qK ⟨[(4, .ptr 102 0), (5, .ptr 103 0), (9, .ptr 511 0), (10, .ptr 512 0)], [(102, bx t84 x6), (103, bx t84 x6), (511, bx t84 x7), (512, bx t84 x8)]⟩ ?_
  refine Run.sk ?_
  obtain rfl := sI h
  exact ⟨rfl, by kernel_rfl⟩

def F113 (a0 : IntL) (a1 : IntL) : Option (IntL × IntL × Int) :=
 (bif ((ofN (List.length a1.2)) == (0 : Int)) then
 some ((false, ([] : List Int)), (false, ([] : List Int)), (6 : Int))
 else
 (F124 a0.2 a1.2).bind fun y1 =>
 (F82 (!(a0.1 == a1.1)) y1.1).bind fun y2 =>
 (F82 a0.1 y1.2).bind fun y3 =>
 (bif (decide ((0 : Int) < (ofN (List.length y1.2)))) then
 ((f113_c0 (!(a0.1 == a1.1)) a1 y2 y3).bind fun o15 =>
 some (o15.1, o15.2, (0 : Int)))
 else
 some (y2, y3, (0 : Int))))

theorem c113 {a0 : IntL} {a1 : IntL} {r : IntL × IntL × Int} (h : F113 a0 a1 = some r) : CallPure Pg 113 [(.d t84 a0), (.d t84 a1)] (.tup (.vcons (.d t84 r.1) (.vcons (.d t84 r.2.1) (.vcons (.d t2 r.2.2) .vnil)))) := by
 refine qC c_113 54 [.cell 4 85, .cell 5 85, .tmp 6] [85, 85, 41] Go.Proofs.Tryz.func113 ?_
 show Run Pg 54 c_113 ⟨[(0, .d t84 a0), (1, .d t84 a1)], []⟩ (fin113 r)
 unfold F113 at h
 refine qN [] 100 ⟨[(2, .ptr 100 0), (3, .ptr 101 0), (4, .ptr 102 0), (5, .ptr 103 0)], [(100, bx t84 a0), (101, bx t84 a1), (102, bx t84 (false, ([] : List Int))), (103, bx t84 (false, ([] : List Int)))]⟩ aN ?_
 refine Run.sq ?_
 refine qN [] 200 ⟨[(2, .ptr 100 0), (3, .ptr 101 0), (4, .ptr 102 0), (5, .ptr 103 0), (14, .d t4 ((ofN (List.length a1.2)) == (0 : Int)))], [(100, bx t84 a0), (101, bx t84 a1), (102, bx t84 (false, ([] : List Int))), (103, bx t84 (false, ([] : List Int)))]⟩ aN ?_
 refine Run.cd ((ofN (List.length a1.2)) == (0 : Int)) (fun hb => ?_) (fun hb => ?_)
 ·replace h := bif_t h hb
  refine qN [] 300 ⟨[(4, .ptr 102 0), (5, .ptr 103 0), (6, .d t2 (6 : Int))], [(102, bx t84 (false, ([] : List Int))), (103, bx t84 (false, ([] : List Int)))]⟩ aN ?_
  refine Run.rt ?_
  obtain rfl := sI h
  exact qR [(.d t84 (false, ([] : List Int))), (.d t84 (false, ([] : List Int))), (.d t2 (6 : Int))]
 ·replace h := bif_f h hb
  refine Run.sk ?_
  show Run Pg 54 _ _ _
  obtain ⟨y1, h_y1, h⟩ := bnd_elim h
  refine qN [(4, .call (.tup (.vcons (.d t83 y1.1) (.vcons (.d t83 y1.2) .vnil))))] 400 ⟨[(2, .ptr 100 0), (3, .ptr 101 0), (4, .ptr 102 0), (5, .ptr 103 0), (7, .d t83 y1.1), (8, .d t83 y1.2)], [(100, bx t84 a0), (101, bx t84 a1), (102, bx t84 (false, ([] : List Int))), (103, bx t84 (false, ([] : List Int)))]⟩ (aC (c124 h_y1) aN) ?_
  obtain ⟨y2, h_y2, h⟩ := bnd_elim h
  obtain ⟨y3, h_y3, h⟩ := bnd_elim h
  refine qN [(6, .call (.d t84 y2)), (10, .call (.d t84 y3))] 500 ⟨[(2, .ptr 100 0), (3, .ptr 101 0), (4, .ptr 102 0), (5, .ptr 103 0), (8, .d t83 y1.2), (9, .ptr 511 0), (10, .ptr 512 0)], [(100, bx t84 a0), (101, bx t84 a1), (102, bx t84 (false, ([] : List Int))), (103, bx t84 (false, ([] : List Int))), (511, bx t84 y2), (512, bx t84 y3)]⟩ (aC (c82 h_y2) (aC (c82 h_y3) aN)) ?_
  refine Run.sq ?_
  rcases bif_elim h with ⟨hb0, h⟩ | ⟨hb0, h⟩
  ·refine qN [(3, .b true)] 600 ⟨[(3, .ptr 101 0), (4, .ptr 102 0), (5, .ptr 103 0), (9, .ptr 511 0), (10, .ptr 512 0), (45, .d t4 (!(a0.1 == a1.1)))], [(101, bx t84 a1), (102, bx t84 (false, ([] : List Int))), (103, bx t84 (false, ([] : List Int))), (511, bx t84 y2), (512, bx t84 y3)]⟩ (aC hb0 aN) ?_
   obtain ⟨o15, h_o15, h⟩ := bnd_elim h
   refine Run.mono (f113_c0_ok (!(a0.1 == a1.1)) a1 (false, ([] : List Int)) y2 y3 h_o15) ?_
   rintro _ _ ⟨rfl, rfl⟩
   show Run Pg 54 _ _ _
   refine qN [] 800 ⟨[(4, .ptr 102 0), (5, .ptr 103 0), (6, .d t2 (0 : Int))], [(102, bx t84 o15.1), (103, bx t84 o15.2)]⟩ aN ?_
   refine Run.rt ?_
   obtain rfl := sI h
   exact qR [(.d t84 o15.1), (.d t84 o15.2), (.d t2 (0 : Int))]
  ·refine qN [(3, .b false)] 600 ⟨[(3, .ptr 101 0), (4, .ptr 102 0), (5, .ptr 103 0), (9, .ptr 511 0), (10, .ptr 512 0), (45, .d t4 false)], [(101, bx t84 a1), (102, bx t84 (false, ([] : List Int))), (103, bx t84 (false, ([] : List Int))), (511, bx t84 y2), (512, bx t84 y3)]⟩ (aC hb0 aN) ?_
   refine Run.cd false (fun hb => (by cases hb)) (fun hb => ?_)
   refine Run.sk ?_
   show Run Pg 54 _ _ _
   refine qN [] 800 ⟨[(4, .ptr 102 0), (5, .ptr 103 0), (6, .d t2 (0 : Int))], [(102, bx t84 y2), (103, bx t84 y3)]⟩ aN ?_
   refine Run.rt ?_
   obtain rfl := sI h
   exact qR [(.d t84 y2), (.d t84 y3), (.d t2 (0 : Int))]

/-! ## f86 -/

noncomputable def c_86 : Code := body0 Go.Proofs.Tryz.f86

def fin86 (r : RatL) : Ex → St → Prop := endK X0 [.cell 4 87] [87] (.d t86 r)

def f86_c0_post (x2 : Bool) (x3 : IntL) (x4 : IntL) (x5 : RatL) : RatL → Ex → St → Prop
 | o, x, s => x = .nrm ∧ s = ⟨[(2, .ptr 100 0), (3, .ptr 101 0), (4, .ptr 102 0)], [(100, bx t84 o.1), (101, bx t84 o.2), (102, bx t86 x5)]⟩

def f86_c0 (x2 : Bool) (x3 : IntL) (x4 : IntL) : Option RatL :=
 (bif x2 then
 (F111 x3).bind fun y8 =>
 (F111 x4).bind fun y9 =>
 some (y8, y9)
 else
 some (x3, x4))

theorem f86_c0_ok (x2 : Bool) (x3 : IntL) (x4 : IntL) (x5 : RatL) {out : RatL} (h : f86_c0 x2 x3 x4 = some out) : Run Pg 39 (sq2 (sq1 (sq2 c_86))) ⟨[(2, .ptr 100 0), (3, .ptr 101 0), (4, .ptr 102 0), (14, .d t4 x2)], [(100, bx t84 x3), (101, bx t84 x4), (102, bx t86 x5)]⟩ (f86_c0_post x2 x3 x4 x5 out) := by
 unfold f86_c0 at h
 refine Run.cd x2 (fun hb => ?_) (fun hb => ?_)
 ·replace h := bif_t h hb
  obtain ⟨y8, h_y8, h⟩ := bnd_elim h
  obtain ⟨y9, h_y9, h⟩ := bnd_elim h
  refine qE [(1, .call (.d t84 y8)), (3, .call (.d t84 y9))] 300 ⟨[(2, .ptr 100 0), (3, .ptr 101 0), (4, .ptr 102 0)], [(100, bx t84 y8), (101, bx t84 y9), (102, bx t86 x5)]⟩ (aC (c111 h_y8) (aC (c111 h_y9) aN)) ?_
  obtain rfl := sI h
  exact ⟨rfl, by kernel_rfl⟩
 ·replace h := bif_f h hb
  refine qK ⟨[(2, .ptr 100 0), (3, .ptr 101 0), (4, .ptr 102 0)], [(100, bx t84 x3), (101, bx t84 x4), (102, bx t86 x5)]⟩ ?_
  refine Run.sk ?_
  obtain rfl := sI h
  exact ⟨rfl, by kernel_rfl⟩

def F86 (a0 : IntL) (a1 : IntL) : Option RatL :=
 (F110 a1).bind fun y1 =>
 ((f86_c0 (decide (y1 < (0 : Int))) a0 a1).bind fun o10 =>
 (F112 o10.1 o10.2).bind fun y11 =>
 (F113 o10.1 y11).bind fun y12 =>
 (F113 o10.2 y11).bind fun y13 =>
 some (y12.1, y13.1))

theorem c86 {a0 : IntL} {a1 : IntL} {r : RatL} (h : F86 a0 a1 = some r) : CallPure Pg 86 [(.d t84 a0), (.d t84 a1)] (.d t86 r) := by
 refine qC c_86 39 [.cell 4 87] [87] Go.Proofs.Tryz.func86 ?_
 show Run Pg 39 c_86 ⟨[(0, .d t84 a0), (1, .d t84 a1)], []⟩ (fin86 r)
 unfold F86 at h
 refine qN [] 100 ⟨[(2, .ptr 100 0), (3, .ptr 101 0), (4, .ptr 102 0)], [(100, bx t84 a0), (101, bx t84 a1), (102, bx t86 ((false, ([] : List Int)), (false, ([] : List Int))))]⟩ aN ?_
 refine Run.sq ?_
 obtain ⟨y1, h_y1, h⟩ := bnd_elim h
 refine qN [(1, .call (.d t2 y1))] 200 ⟨[(2, .ptr 100 0), (3, .ptr 101 0), (4, .ptr 102 0), (14, .d t4 (decide (y1 < (0 : Int))))], [(100, bx t84 a0), (101, bx t84 a1), (102, bx t86 ((false, ([] : List Int)), (false, ([] : List Int))))]⟩ (aC (c110 h_y1) aN) ?_
 obtain ⟨o10, h_o10, h⟩ := bnd_elim h
 refine Run.mono (f86_c0_ok (decide (y1 < (0 : Int))) a0 a1 ((false, ([] : List Int)), (false, ([] : List Int))) h_o10) ?_
 rintro _ _ ⟨rfl, rfl⟩
 show Run Pg 39 _ _ _
 obtain ⟨y11, h_y11, h⟩ := bnd_elim h
 refine qN [(2, .call (.d t84 y11))] 400 ⟨[(2, .ptr 100 0), (3, .ptr 101 0), (4, .ptr 102 0), (5, .ptr 403 0)], [(100, bx t84 o10.1), (101, bx t84 o10.2), (102, bx t86 ((false, ([] : List Int)), (false, ([] : List Int)))), (403, bx t84 y11)]⟩ (aC (c112 h_y11) aN) ?_
 obtain ⟨y12, h_y12, h⟩ := bnd_elim h
 refine qN [(2, .call (.tup (.vcons (.d t84 y12.1) (.vcons (.d t84 y12.2.1) (.vcons (.d t2 y12.2.2) .vnil)))))] 500 ⟨[(3, .ptr 101 0), (4, .ptr 102 0), (5, .ptr 403 0), (6, .ptr 507 0)], [(101, bx t84 o10.2), (102, bx t86 ((false, ([] : List Int)), (false, ([] : List Int)))), (403, bx t84 y11), (507, bx t84 y12.1)]⟩ (aC (c113 h_y12) aN) ?_
 obtain ⟨y13, h_y13, h⟩ := bnd_elim h
 refine qN [(2, .call (.tup (.vcons (.d t84 y13.1) (.vcons (.d t84 y13.2.1) (.vcons (.d t2 y13.2.2) .vnil)))))] 600 ⟨[(4, .ptr 102 0), (6, .ptr 507 0), (9, .ptr 607 0)], [(102, bx t86 ((false, ([] : List Int)), (false, ([] : List Int)))), (507, bx t84 y12.1), (607, bx t84 y13.1)]⟩ (aC (c113 h_y13) aN) ?_
 refine qN [] 700 ⟨[(4, .ptr 102 0)], [(102, bx t86 (y12.1, y13.1))]⟩ aN ?_
 refine Run.rt ?_
 obtain rfl := sI h
 exact qR [(.d t86 (y12.1, y13.1))]

/-! ## f136 -/

noncomputable def c_136 : Code := body0 Go.Proofs.Tryz.f136

def fin136 (r : RatL) : Ex → St → Prop := endK X0 [.cell 4 87] [87] (.d t86 r)

def F136 (a0 : RatL) (a1 : RatL) : Option RatL :=
 (F65 a0.1 a1.2).bind fun y1 =>
 (F65 a1.1 a0.2).bind fun y2 =>
 (F127 y1 y2).bind fun y3 =>
 (F65 a0.2 a1.2).bind fun y4 =>
 (F86 y3 y4).bind fun y5 =>
 some y5

theorem c136 {a0 : RatL} {a1 : RatL} {r : RatL} (h : F136 a0 a1 = some r) : CallPure Pg 136 [(.d t86 a0), (.d t86 a1)] (.d t86 r) := by
 refine qC c_136 26 [.cell 4 87] [87] Go.Proofs.Tryz.func136 ?_
 show Run Pg 26 c_136 ⟨[(0, .d t86 a0), (1, .d t86 a1)], []⟩ (fin136 r)
 unfold F136 at h
 refine qN [] 100 ⟨[(2, .ptr 100 0), (3, .ptr 101 0), (4, .ptr 102 0)], [(100, bx t86 a0), (101, bx t86 a1), (102, bx t86 ((false, ([] : List Int)), (false, ([] : List Int))))]⟩ aN ?_
 obtain ⟨y1, h_y1, h⟩ := bnd_elim h
 refine qN [(4, .call (.d t84 y1))] 200 ⟨[(2, .ptr 100 0), (3, .ptr 101 0), (4, .ptr 102 0), (5, .ptr 205 0)], [(100, bx t86 a0), (101, bx t86 a1), (102, bx t86 ((false, ([] : List Int)), (false, ([] : List Int)))), (205, bx t84 y1)]⟩ (aC (c65 h_y1) aN) ?_
 obtain ⟨y2, h_y2, h⟩ := bnd_elim h
 refine qN [(4, .call (.d t84 y2))] 300 ⟨[(2, .ptr 100 0), (3, .ptr 101 0), (4, .ptr 102 0), (5, .ptr 205 0), (6, .ptr 305 0)], [(100, bx t86 a0), (101, bx t86 a1), (102, bx t86 ((false, ([] : List Int)), (false, ([] : List Int)))), (205, bx t84 y1), (305, bx t84 y2)]⟩ (aC (c65 h_y2) aN) ?_
 obtain ⟨y3, h_y3, h⟩ := bnd_elim h
 obtain ⟨y4, h_y4, h⟩ := bnd_elim h
 obtain ⟨y5, h_y5, h⟩ := bnd_elim h
 refine qN [(2, .call (.d t84 y3)), (7, .call (.d t84 y4)), (8, .call (.d t86 y5))] 400 ⟨[(4, .ptr 102 0)], [(102, bx t86 y5)]⟩ (aC (c127 h_y3) (aC (c65 h_y4) (aC (c86 h_y5) aN))) ?_
 refine Run.rt ?_
 obtain rfl := sI h
 exact qR [(.d t86 y5)]

/-! ## f135 -/

noncomputable def c_135 : Code := body0 Go.Proofs.Tryz.f135

def fin135 (r : RatL) : Ex → St → Prop := endK X0 [.cell 4 87] [87] (.d t86 r)

def F135 (a0 : RatL) (a1 : RatL) : Option RatL :=
 (F144 a1).bind fun y1 =>
 (F136 a0 y1).bind fun y2 =>
 some y2

theorem c135 {a0 : RatL} {a1 : RatL} {r : RatL} (h : F135 a0 a1 = some r) : CallPure Pg 135 [(.d t86 a0), (.d t86 a1)] (.d t86 r) := by
 refine qC c_135 9 [.cell 4 87] [87] Go.Proofs.Tryz.func135 ?_
 show Run Pg 9 c_135 ⟨[(0, .d t86 a0), (1, .d t86 a1)], []⟩ (fin135 r)
 unfold F135 at h
 refine qN [] 100 ⟨[(2, .ptr 100 0), (3, .ptr 101 0), (4, .ptr 102 0)], [(100, bx t86 a0), (101, bx t86 a1), (102, bx t86 ((false, ([] : List Int)), (false, ([] : List Int))))]⟩ aN ?_
 obtain ⟨y1, h_y1, h⟩ := bnd_elim h
 obtain ⟨y2, h_y2, h⟩ := bnd_elim h
 refine qN [(2, .call (.d t86 y1)), (3, .call (.d t86 y2))] 200 ⟨[(4, .ptr 102 0)], [(102, bx t86 y2)]⟩ (aC (c144 h_y1) (aC (c136 h_y2) aN)) ?_
 refine Run.rt ?_
 obtain rfl := sI h
 exact qR [(.d t86 y2)]

/-! ## f121 -/

noncomputable def c_121 : Code := body0 Go.Proofs.Tryz.f121

def fin121 (r : RatL) : Ex → St → Prop := endK X0 [.cell 4 87] [87] (.d t86 r)

def F121 (a0 : RatL) (a1 : RatL) : Option RatL :=
 (F135 a0 a1).bind fun y1 =>
 some y1

theorem c121 {a0 : RatL} {a1 : RatL} {r : RatL} (h : F121 a0 a1 = some r) : CallPure Pg 121 [(.d t86 a0), (.d t86 a1)] (.d t86 r) := by
 refine qC c_121 8 [.cell 4 87] [87] Go.Proofs.Tryz.func121 ?_
 show Run Pg 8 c_121 ⟨[(0, .d t86 a0), (1, .d t86 a1)], []⟩ (fin121 r)
 unfold F121 at h
 refine qN [] 100 ⟨[(2, .ptr 100 0), (3, .ptr 101 0), (4, .ptr 102 0)], [(100, bx t86 a0), (101, bx t86 a1), (102, bx t86 ((false, ([] : List Int)), (false, ([] : List Int))))]⟩ aN ?_
 obtain ⟨y1, h_y1, h⟩ := bnd_elim h
 refine qN [(2, .call (.d t86 y1))] 200 ⟨[(4, .ptr 102 0)], [(102, bx t86 y1)]⟩ (aC (c135 h_y1) aN) ?_
 refine Run.rt ?_
 obtain rfl := sI h
 exact qR [(.d t86 y1)]

/-! ## f106 -/

noncomputable def c_106 : Code := body0 Go.Proofs.Tryz.f106

def fin106 (r : (RatL × RatL)) : Ex → St → Prop := endK X0 [.cell 4 102] [102] (.d t101 r)

def F106 (a0 : RatL × RatL) (a1 : RatL × RatL) : Option ((RatL × RatL)) :=
 (F121 a1.1 a0.1).bind fun y1 =>
 (F121 a1.2 a0.2).bind fun y2 =>
 some (y1, y2)

theorem c106 {a0 : RatL × RatL} {a1 : RatL × RatL} {r : (RatL × RatL)} (h : F106 a0 a1 = some r) : CallPure Pg 106 [(.d t101 a0), (.d t101 a1)] (.d t101 r) := by
 refine qC c_106 16 [.cell 4 102] [102] Go.Proofs.Tryz.func106 ?_
 show Run Pg 16 c_106 ⟨[(0, .d t101 a0), (1, .d t101 a1)], []⟩ (fin106 r)
 unfold F106 at h
 refine qN [] 100 ⟨[(2, .ptr 100 0), (3, .ptr 101 0), (4, .ptr 102 0)], [(100, bx t101 a0), (101, bx t101 a1), (102, bx t101 (((false, ([] : List Int)), (false, ([] : List Int))), ((false, ([] : List Int)), (false, ([] : List Int)))))]⟩ aN ?_
 obtain ⟨y1, h_y1, h⟩ := bnd_elim h
 obtain ⟨y2, h_y2, h⟩ := bnd_elim h
 refine qN [(4, .call (.d t86 y1)), (9, .call (.d t86 y2))] 200 ⟨[(4, .ptr 102 0)], [(102, bx t101 (y1, y2))]⟩ (aC (c121 h_y1) (aC (c121 h_y2) aN)) ?_
 refine Run.rt ?_
 obtain rfl := sI h
 exact qR [(.d t101 (y1, y2))]

/-! ## f69 -/

noncomputable def c_69 : Code := body0 Go.Proofs.Tryz.f69

def fin69 (r : RatL) : Ex → St → Prop := endK X0 [.cell 4 87] [87] (.d t86 r)

def F69 (a0 : RatL) (a1 : RatL) : Option RatL :=
 (F65 a0.1 a1.1).bind fun y1 =>
 (F65 a0.2 a1.2).bind fun y2 =>
 (F86 y1 y2).bind fun y3 =>
 some y3

theorem c69 {a0 : RatL} {a1 : RatL} {r : RatL} (h : F69 a0 a1 = some r) : CallPure Pg 69 [(.d t86 a0), (.d t86 a1)] (.d t86 r) := by
 refine qC c_69 16 [.cell 4 87] [87] Go.Proofs.Tryz.func69 ?_
 show Run Pg 16 c_69 ⟨[(0, .d t86 a0), (1, .d t86 a1)], []⟩ (fin69 r)
 unfold F69 at h
 refine qN [] 100 ⟨[(2, .ptr 100 0), (3, .ptr 101 0), (4, .ptr 102 0)], [(100, bx t86 a0), (101, bx t86 a1), (102, bx t86 ((false, ([] : List Int)), (false, ([] : List Int))))]⟩ aN ?_
 obtain ⟨y1, h_y1, h⟩ := bnd_elim h
 obtain ⟨y2, h_y2, h⟩ := bnd_elim h
 obtain ⟨y3, h_y3, h⟩ := bnd_elim h
 refine qN [(4, .call (.d t84 y1)), (9, .call (.d t84 y2)), (10, .call (.d t86 y3))] 200 ⟨[(4, .ptr 102 0)], [(102, bx t86 y3)]⟩ (aC (c65 h_y1) (aC (c65 h_y2) (aC (c86 h_y3) aN))) ?_
 refine Run.rt ?_
 obtain rfl := sI h
 exact qR [(.d t86 y3)]

/-! ## f109 -/

noncomputable def c_109 : Code := body0 Go.Proofs.Tryz.f109

def fin109 (r : RatL) : Ex → St → Prop := endK X0 [.cell 4 87] [87] (.d t86 r)

def F109 (a0 : RatL) (a1 : RatL) : Option RatL :=
 (F69 a0 a1).bind fun y1 =>
 some y1

theorem c109 {a0 : RatL} {a1 : RatL} {r : RatL} (h : F109 a0 a1 = some r) : CallPure Pg 109 [(.d t86 a0), (.d t86 a1)] (.d t86 r) := by
 refine qC c_109 8 [.cell 4 87] [87] Go.Proofs.Tryz.func109 ?_
 show Run Pg 8 c_109 ⟨[(0, .d t86 a0), (1, .d t86 a1)], []⟩ (fin109 r)
 unfold F109 at h
 refine qN [] 100 ⟨[(2, .ptr 100 0), (3, .ptr 101 0), (4, .ptr 102 0)], [(100, bx t86 a0), (101, bx t86 a1), (102, bx t86 ((false, ([] : List Int)), (false, ([] : List Int))))]⟩ aN ?_
 obtain ⟨y1, h_y1, h⟩ := bnd_elim h
 refine qN [(2, .call (.d t86 y1))] 200 ⟨[(4, .ptr 102 0)], [(102, bx t86 y1)]⟩ (aC (c69 h_y1) aN) ?_
 refine Run.rt ?_
 obtain rfl := sI h
 exact qR [(.d t86 y1)]

/-! ## f105 -/

noncomputable def c_105 : Code := body0 Go.Proofs.Tryz.f105

def fin105 (r : RatL) : Ex → St → Prop := endK X0 [.cell 4 87] [87] (.d t86 r)

def F105 (a0 : RatL × RatL) (a1 : RatL × RatL) : Option RatL :=
 (F109 a0.1 a1.2).bind fun y1 =>
 (F109 a0.2 a1.1).bind fun y2 =>
 (F121 y1 y2).bind fun y3 =>
 some y3

theorem c105 {a0 : RatL × RatL} {a1 : RatL × RatL} {r : RatL} (h : F105 a0 a1 = some r) : CallPure Pg 105 [(.d t101 a0), (.d t101 a1)] (.d t86 r) := by
 refine qC c_105 16 [.cell 4 87] [87] Go.Proofs.Tryz.func105 ?_
 show Run Pg 16 c_105 ⟨[(0, .d t101 a0), (1, .d t101 a1)], []⟩ (fin105 r)
 unfold F105 at h
 refine qN [] 100 ⟨[(2, .ptr 100 0), (3, .ptr 101 0), (4, .ptr 102 0)], [(100, bx t101 a0), (101, bx t101 a1), (102, bx t86 ((false, ([] : List Int)), (false, ([] : List Int))))]⟩ aN ?_
 obtain ⟨y1, h_y1, h⟩ := bnd_elim h
 obtain ⟨y2, h_y2, h⟩ := bnd_elim h
 obtain ⟨y3, h_y3, h⟩ := bnd_elim h
 refine qN [(4, .call (.d t86 y1)), (9, .call (.d t86 y2)), (10, .call (.d t86 y3))] 200 ⟨[(4, .ptr 102 0)], [(102, bx t86 y3)]⟩ (aC (c109 h_y1) (aC (c109 h_y2) (aC (c121 h_y3) aN))) ?_
 refine Run.rt ?_
 obtain rfl := sI h
 exact qR [(.d t86 y3)]

/-! ## f104 -/

noncomputable def c_104 : Code := body0 Go.Proofs.Tryz.f104

def fin104 (r : Int) : Ex → St → Prop := endK X0 [.tmp 2] [3] (.d t2 r)

def F104 (a0 : RatL) : Option (Int) :=
 (F110 a0.1).bind fun y1 =>
 some y1

theorem c104 {a0 : RatL} {r : Int} (h : F104 a0 = some r) : CallPure Pg 104 [(.d t86 a0)] (.d t2 r) := by
 refine qC c_104 6 [.tmp 2] [3] Go.Proofs.Tryz.func104 ?_
 show Run Pg 6 c_104 ⟨[(0, .d t86 a0)], []⟩ (fin104 r)
 unfold F104 at h
 refine qN [] 100 ⟨[(1, .ptr 100 0)], [(100, bx t86 a0)]⟩ aN ?_
 obtain ⟨y1, h_y1, h⟩ := bnd_elim h
 refine qN [(2, .call (.d t2 y1))] 200 ⟨[(2, .d t2 y1)], []⟩ (aC (c110 h_y1) aN) ?_
 refine Run.rt ?_
 obtain rfl := sI h
 exact qR [(.d t2 y1)]

/-! ## f84 -/

noncomputable def c_84 : Code := body0 Go.Proofs.Tryz.f84

def fin84 (r : Bool) : Ex → St → Prop := endK X0 [.tmp 8] [4] (.d t4 r)

def F84 (a0 : RatL × RatL) (a1 : RatL × RatL) (a2 : RatL × RatL) (a3 : RatL × RatL) : Option (Bool) :=
 (F106 a0 a1).bind fun y1 =>
 (F106 a0 a2).bind fun y2 =>
 (F105 y1 y2).bind fun y3 =>
 (F104 y3).bind fun y4 =>
 (F106 a0 a1).bind fun y5 =>
 (F106 a0 a3).bind fun y6 =>
 (F105 y5 y6).bind fun y7 =>
 (F104 y7).bind fun y8 =>
 (F106 a2 a3).bind fun y9 =>
 (F106 a2 a0).bind fun y10 =>
 (F105 y9 y10).bind fun y11 =>
 (F104 y11).bind fun y12 =>
 (F106 a2 a3).bind fun y13 =>
 (F106 a2 a1).bind fun y14 =>
 (F105 y13 y14).bind fun y15 =>
 (F104 y15).bind fun y16 =>
 (bif (decide ((wrapI .i64 (y4 * y8)) < (0 : Int))) then
 some (decide ((wrapI .i64 (y12 * y16)) < (0 : Int)))
 else
 some false)

theorem c84 {a0 : RatL × RatL} {a1 : RatL × RatL} {a2 : RatL × RatL} {a3 : RatL × RatL} {r : Bool} (h : F84 a0 a1 a2 a3 = some r) : CallPure Pg 84 [(.d t101 a0), (.d t101 a1), (.d t101 a2), (.d t101 a3)] (.d t4 r) := by
 refine qC c_84 55 [.tmp 8] [4] Go.Proofs.Tryz.func84 ?_
 show Run Pg 55 c_84 ⟨[(0, .d t101 a0), (1, .d t101 a1), (2, .d t101 a2), (3, .d t101 a3)], []⟩ (fin84 r)
 unfold F84 at h
 refine qN [] 100 ⟨[(4, .ptr 100 0), (5, .ptr 101 0), (6, .ptr 102 0), (7, .ptr 103 0)], [(100, bx t101 a0), (101, bx t101 a1), (102, bx t101 a2), (103, bx t101 a3)]⟩ aN ?_
 obtain ⟨y1, h_y1, h⟩ := bnd_elim h
 obtain ⟨y2, h_y2, h⟩ := bnd_elim h
 obtain ⟨y3, h_y3, h⟩ := bnd_elim h
 obtain ⟨y4, h_y4, h⟩ := bnd_elim h
 obtain ⟨y5, h_y5, h⟩ := bnd_elim h
 obtain ⟨y6, h_y6, h⟩ := bnd_elim h
 obtain ⟨y7, h_y7, h⟩ := bnd_elim h
 obtain ⟨y8, h_y8, h⟩ := bnd_elim h
 refine qN [(2, .call (.d t101 y1)), (5, .call (.d t101 y2)), (6, .call (.d t86 y3)), (7, .call (.d t2 y4)), (10, .call (.d t101 y5)), (13, .call (.d t101 y6)), (14, .call (.d t86 y7)), (15, .call (.d t2 y8))] 200 ⟨[(4, .ptr 100 0), (5, .ptr 101 0), (6, .ptr 102 0), (7, .ptr 103 0), (9, .d t2 y4), (10, .d t2 y8)], [(100, bx t101 a0), (101, bx t101 a1), (102, bx t101 a2), (103, bx t101 a3)]⟩ (aC (c106 h_y1) (aC (c106 h_y2) (aC (c105 h_y3) (aC (c104 h_y4) (aC (c106 h_y5) (aC (c106 h_y6) (aC (c105 h_y7) (aC (c104 h_y8) aN)))))))) ?_
 obtain ⟨y9, h_y9, h⟩ := bnd_elim h
 obtain ⟨y10, h_y10, h⟩ := bnd_elim h
 obtain ⟨y11, h_y11, h⟩ := bnd_elim h
 obtain ⟨y12, h_y12, h⟩ := bnd_elim h
 obtain ⟨y13, h_y13, h⟩ := bnd_elim h
 obtain ⟨y14, h_y14, h⟩ := bnd_elim h
 obtain ⟨y15, h_y15, h⟩ := bnd_elim h
 obtain ⟨y16, h_y16, h⟩ := bnd_elim h
 refine qN [(2, .call (.d t101 y9)), (5, .call (.d t101 y10)), (6, .call (.d t86 y11)), (7, .call (.d t2 y12)), (10, .call (.d t101 y13)), (13, .call (.d t101 y14)), (14, .call (.d t86 y15)), (15, .call (.d t2 y16))] 300 ⟨[(9, .d t2 y4), (10, .d t2 y8), (11, .d t2 y12), (12, .d t2 y16)], []⟩ (aC (c106 h_y9) (aC (c106 h_y10) (aC (c105 h_y11) (aC (c104 h_y12) (aC (c106 h_y13) (aC (c106 h_y14) (aC (c105 h_y15) (aC (c104 h_y16) aN)))))))) ?_
 rcases bif_elim h with ⟨hb0, h⟩ | ⟨hb0, h⟩
 ·refine qN [(4, .b true)] 400 ⟨[(8, .d t4 (decide ((wrapI .i64 (y12 * y16)) < (0 : Int))))], []⟩ (aC hb0 aN) ?_
  refine Run.rt ?_
  obtain rfl := sI h
  exact qR [(.d t4 (decide ((wrapI .i64 (y12 * y16)) < (0 : Int))))]
 ·refine qN [(4, .b false)] 400 ⟨[(8, .d t4 false)], []⟩ (aC hb0 aN) ?_
  refine Run.rt ?_
  obtain rfl := sI h
  exact qR [(.d t4 false)]

/-! ## f122 -/

noncomputable def c_122 : Code := body0 Go.Proofs.Tryz.f122

def fin122 (r : RatL) : Ex → St → Prop := endK X0 [.cell 4 87] [87] (.d t86 r)

def F122 (a0 : RatL) (a1 : RatL) : Option RatL :=
 (F136 a0 a1).bind fun y1 =>
 some y1

theorem c122 {a0 : RatL} {a1 : RatL} {r : RatL} (h : F122 a0 a1 = some r) : CallPure Pg 122 [(.d t86 a0), (.d t86 a1)] (.d t86 r) := by
 refine qC c_122 8 [.cell 4 87] [87] Go.Proofs.Tryz.func122 ?_
 show Run Pg 8 c_122 ⟨[(0, .d t86 a0), (1, .d t86 a1)], []⟩ (fin122 r)
 unfold F122 at h
 refine qN [] 100 ⟨[(2, .ptr 100 0), (3, .ptr 101 0), (4, .ptr 102 0)], [(100, bx t86 a0), (101, bx t86 a1), (102, bx t86 ((false, ([] : List Int)), (false, ([] : List Int))))]⟩ aN ?_
 obtain ⟨y1, h_y1, h⟩ := bnd_elim h
 refine qN [(2, .call (.d t86 y1))] 200 ⟨[(4, .ptr 102 0)], [(102, bx t86 y1)]⟩ (aC (c136 h_y1) aN) ?_
 refine Run.rt ?_
 obtain rfl := sI h
 exact qR [(.d t86 y1)]

/-! ## f107 -/

noncomputable def c_107 : Code := body0 Go.Proofs.Tryz.f107

def fin107 (r : RatL) : Ex → St → Prop := endK X0 [.cell 4 87] [87] (.d t86 r)

def F107 (a0 : RatL × RatL) (a1 : RatL × RatL) : Option RatL :=
 (F109 a0.1 a1.1).bind fun y1 =>
 (F109 a0.2 a1.2).bind fun y2 =>
 (F122 y1 y2).bind fun y3 =>
 some y3

theorem c107 {a0 : RatL × RatL} {a1 : RatL × RatL} {r : RatL} (h : F107 a0 a1 = some r) : CallPure Pg 107 [(.d t101 a0), (.d t101 a1)] (.d t86 r) := by
 refine qC c_107 16 [.cell 4 87] [87] Go.Proofs.Tryz.func107 ?_
 show Run Pg 16 c_107 ⟨[(0, .d t101 a0), (1, .d t101 a1)], []⟩ (fin107 r)
 unfold F107 at h
 refine qN [] 100 ⟨[(2, .ptr 100 0), (3, .ptr 101 0), (4, .ptr 102 0)], [(100, bx t101 a0), (101, bx t101 a1), (102, bx t86 ((false, ([] : List Int)), (false, ([] : List Int))))]⟩ aN ?_
 obtain ⟨y1, h_y1, h⟩ := bnd_elim h
 obtain ⟨y2, h_y2, h⟩ := bnd_elim h
 obtain ⟨y3, h_y3, h⟩ := bnd_elim h
 refine qN [(4, .call (.d t86 y1)), (9, .call (.d t86 y2)), (10, .call (.d t86 y3))] 200 ⟨[(4, .ptr 102 0)], [(102, bx t86 y3)]⟩ (aC (c109 h_y1) (aC (c109 h_y2) (aC (c122 h_y3) aN))) ?_
 refine Run.rt ?_
 obtain rfl := sI h
 exact qR [(.d t86 y3)]

/-! ## f64 -/

noncomputable def c_64 : Code := body0 Go.Proofs.Tryz.f64

def fin64 (r : Int) : Ex → St → Prop := endK X0 [.tmp 4] [3] (.d t2 r)

def F64 (a0 : IntL) (a1 : IntL) : Option (Int) :=
 (bif (!(a0.1 == a1.1)) then
 (bif a0.1 then
 some (-1 : Int)
 else
 some (1 : Int))
 else
 (bif a0.1 then
 (F81 a1.2 a0.2).bind fun y1 =>
 some y1
 else
 (F81 a0.2 a1.2).bind fun y2 =>
 some y2))

theorem c64 {a0 : IntL} {a1 : IntL} {r : Int} (h : F64 a0 a1 = some r) : CallPure Pg 64 [(.d t84 a0), (.d t84 a1)] (.d t2 r) := by
 refine qC c_64 24 [.tmp 4] [3] Go.Proofs.Tryz.func64 ?_
 show Run Pg 24 c_64 ⟨[(0, .d t84 a0), (1, .d t84 a1)], []⟩ (fin64 r)
 unfold F64 at h
 refine qN [] 100 ⟨[(2, .ptr 100 0), (3, .ptr 101 0)], [(100, bx t84 a0), (101, bx t84 a1)]⟩ aN ?_
 refine Run.sq ?_
 refine qN [] 200 ⟨[(2, .ptr 100 0), (3, .ptr 101 0), (9, .d t4 (!(a0.1 == a1.1)))], [(100, bx t84 a0), (101, bx t84 a1)]⟩ aN ?_
 refine Run.cd (!(a0.1 == a1.1)) (fun hb => ?_) (fun hb => ?_)
 ·replace h := bif_t h hb
  refine Run.sq ?_
  refine qN [] 300 ⟨[(11, .d t4 a0.1)], []⟩ aN ?_
  refine Run.cd a0.1 (fun hb => ?_) (fun hb => ?_)
  ·replace h := bif_t h hb
   refine qN [] 400 ⟨[(4, .d t2 (-1 : Int))], []⟩ aN ?_
   refine Run.rt ?_
   obtain rfl := sI h
   exact qR [(.d t2 (-1 : Int))]
  ·replace h := bif_f h hb
   refine Run.sk ?_
   show Run Pg 24 _ _ _
   refine qN [] 500 ⟨[(4, .d t2 (1 : Int))], []⟩ aN ?_
   refine Run.rt ?_
   obtain rfl := sI h
   exact qR [(.d t2 (1 : Int))]
 ·replace h := bif_f h hb
  refine Run.sk ?_
  show Run Pg 24 _ _ _
  refine Run.sq ?_
  refine qN [] 600 ⟨[(2, .ptr 100 0), (3, .ptr 101 0), (13, .d t4 a0.1)], [(100, bx t84 a0), (101, bx t84 a1)]⟩ aN ?_
  refine Run.cd a0.1 (fun hb => ?_) (fun hb => ?_)
  ·replace h := bif_t h hb
   obtain ⟨y1, h_y1, h⟩ := bnd_elim h
   refine qN [(4, .call (.d t2 y1))] 700 ⟨[(4, .d t2 y1)], []⟩ (aC (c81 h_y1) aN) ?_
   refine Run.rt ?_
   obtain rfl := sI h
   exact qR [(.d t2 y1)]
  ·replace h := bif_f h hb
   refine Run.sk ?_
   show Run Pg 24 _ _ _
   obtain ⟨y2, h_y2, h⟩ := bnd_elim h
   refine qN [(4, .call (.d t2 y2))] 800 ⟨[(4, .d t2 y2)], []⟩ (aC (c81 h_y2) aN) ?_
   refine Run.rt ?_
   obtain rfl := sI h
   exact qR [(.d t2 y2)]

/-! ## f47 -/

noncomputable def c_47 : Code := body0 Go.Proofs.Tryz.f47

def fin47 (r : Int) : Ex → St → Prop := endK X0 [.tmp 4] [3] (.d t2 r)

def F47 (a0 : RatL) (a1 : RatL) : Option (Int) :=
 (F65 a0.1 a1.2).bind fun y1 =>
 (F65 a1.1 a0.2).bind fun y2 =>
 (F64 y1 y2).bind fun y3 =>
 some y3

theorem c47 {a0 : RatL} {a1 : RatL} {r : Int} (h : F47 a0 a1 = some r) : CallPure Pg 47 [(.d t86 a0), (.d t86 a1)] (.d t2 r) := by
 refine qC c_47 16 [.tmp 4] [3] Go.Proofs.Tryz.func47 ?_
 show Run Pg 16 c_47 ⟨[(0, .d t86 a0), (1, .d t86 a1)], []⟩ (fin47 r)
 unfold F47 at h
 refine qN [] 100 ⟨[(2, .ptr 100 0), (3, .ptr 101 0)], [(100, bx t86 a0), (101, bx t86 a1)]⟩ aN ?_
 obtain ⟨y1, h_y1, h⟩ := bnd_elim h
 obtain ⟨y2, h_y2, h⟩ := bnd_elim h
 obtain ⟨y3, h_y3, h⟩ := bnd_elim h
 refine qN [(4, .call (.d t84 y1)), (9, .call (.d t84 y2)), (10, .call (.d t2 y3))] 200 ⟨[(4, .d t2 y3)], []⟩ (aC (c65 h_y1) (aC (c65 h_y2) (aC (c64 h_y3) aN))) ?_
 refine Run.rt ?_
 obtain rfl := sI h
 exact qR [(.d t2 y3)]

/-! ## f137 -/

noncomputable def c_137 : Code := body0 Go.Proofs.Tryz.f137

def fin137 (r : RatL × Int) : Ex → St → Prop := endK X0 [.cell 4 87, .tmp 5] [87, 41] (.tup (.vcons (.d t86 r.1) (.vcons (.d t2 r.2) .vnil)))

def F137 (a0 : IntL) (a1 : IntL) : Option (RatL × Int) :=
 (F110 a1).bind fun y1 =>
 (bif (y1 == (0 : Int)) then
 some (((false, ([] : List Int)), (false, ([] : List Int))), (6 : Int))
 else
 (F86 a0 a1).bind fun y2 =>
 some (y2, (0 : Int)))

theorem c137 {a0 : IntL} {a1 : IntL} {r : RatL × Int} (h : F137 a0 a1 = some r) : CallPure Pg 137 [(.d t84 a0), (.d t84 a1)] (.tup (.vcons (.d t86 r.1) (.vcons (.d t2 r.2) .vnil))) := by
 refine qC c_137 13 [.cell 4 87, .tmp 5] [87, 41] Go.Proofs.Tryz.func137 ?_
 show Run Pg 13 c_137 ⟨[(0, .d t84 a0), (1, .d t84 a1)], []⟩ (fin137 r)
 unfold F137 at h
 refine qN [] 100 ⟨[(2, .ptr 100 0), (3, .ptr 101 0), (4, .ptr 102 0)], [(100, bx t84 a0), (101, bx t84 a1), (102, bx t86 ((false, ([] : List Int)), (false, ([] : List Int))))]⟩ aN ?_
 refine Run.sq ?_
 obtain ⟨y1, h_y1, h⟩ := bnd_elim h
 refine qN [(1, .call (.d t2 y1))] 200 ⟨[(2, .ptr 100 0), (3, .ptr 101 0), (4, .ptr 102 0), (8, .d t4 (y1 == (0 : Int)))], [(100, bx t84 a0), (101, bx t84 a1), (102, bx t86 ((false, ([] : List Int)), (false, ([] : List Int))))]⟩ (aC (c110 h_y1) aN) ?_
 refine Run.cd (y1 == (0 : Int)) (fun hb => ?_) (fun hb => ?_)
 ·replace h := bif_t h hb
  refine qN [] 300 ⟨[(4, .ptr 102 0), (5, .d t2 (6 : Int))], [(102, bx t86 ((false, ([] : List Int)), (false, ([] : List Int))))]⟩ aN ?_
  refine Run.rt ?_
  obtain rfl := sI h
  exact qR [(.d t86 ((false, ([] : List Int)), (false, ([] : List Int)))), (.d t2 (6 : Int))]
 ·replace h := bif_f h hb
  refine Run.sk ?_
  show Run Pg 13 _ _ _
  obtain ⟨y2, h_y2, h⟩ := bnd_elim h
  refine qN [(2, .call (.d t86 y2))] 400 ⟨[(4, .ptr 102 0), (5, .d t2 (0 : Int))], [(102, bx t86 y2)]⟩ (aC (c86 h_y2) aN) ?_
  refine Run.rt ?_
  obtain rfl := sI h
  exact qR [(.d t86 y2), (.d t2 (0 : Int))]

/-! ## f123 -/

noncomputable def c_123 : Code := body0 Go.Proofs.Tryz.f123

def fin123 (r : RatL × Int) : Ex → St → Prop := endK X0 [.cell 4 87, .tmp 5] [87, 41] (.tup (.vcons (.d t86 r.1) (.vcons (.d t2 r.2) .vnil)))

def F123 (a0 : RatL) (a1 : RatL) : Option (RatL × Int) :=
 (F65 a0.1 a1.2).bind fun y1 =>
 (F65 a0.2 a1.1).bind fun y2 =>
 (F137 y1 y2).bind fun y3 =>
 some (y3.1, y3.2)

theorem c123 {a0 : RatL} {a1 : RatL} {r : RatL × Int} (h : F123 a0 a1 = some r) : CallPure Pg 123 [(.d t86 a0), (.d t86 a1)] (.tup (.vcons (.d t86 r.1) (.vcons (.d t2 r.2) .vnil))) := by
 refine qC c_123 19 [.cell 4 87, .tmp 5] [87, 41] Go.Proofs.Tryz.func123 ?_
 show Run Pg 19 c_123 ⟨[(0, .d t86 a0), (1, .d t86 a1)], []⟩ (fin123 r)
 unfold F123 at h
 refine qN [] 100 ⟨[(2, .ptr 100 0), (3, .ptr 101 0), (4, .ptr 102 0)], [(100, bx t86 a0), (101, bx t86 a1), (102, bx t86 ((false, ([] : List Int)), (false, ([] : List Int))))]⟩ aN ?_
 obtain ⟨y1, h_y1, h⟩ := bnd_elim h
 obtain ⟨y2, h_y2, h⟩ := bnd_elim h
 obtain ⟨y3, h_y3, h⟩ := bnd_elim h
 refine qN [(4, .call (.d t84 y1)), (9, .call (.d t84 y2)), (10, .call (.tup (.vcons (.d t86 y3.1) (.vcons (.d t2 y3.2) .vnil))))] 200 ⟨[(4, .ptr 102 0), (5, .d t2 y3.2)], [(102, bx t86 y3.1)]⟩ (aC (c65 h_y1) (aC (c65 h_y2) (aC (c137 h_y3) aN))) ?_
 refine Run.rt ?_
 obtain rfl := sI h
 exact qR [(.d t86 y3.1), (.d t2 y3.2)]

/-! ## f108 -/

noncomputable def c_108 : Code := body0 Go.Proofs.Tryz.f108

def fin108 (r : RatL) : Ex → St → Prop := endK X0 [.cell 4 87] [87] (.d t86 r)

def F108 (a0 : RatL) (a1 : RatL) : Option RatL :=
 (F123 a0 a1).bind fun y1 =>
 some y1.1

theorem c108 {a0 : RatL} {a1 : RatL} {r : RatL} (h : F108 a0 a1 = some r) : CallPure Pg 108 [(.d t86 a0), (.d t86 a1)] (.d t86 r) := by
 refine qC c_108 14 [.cell 4 87] [87] Go.Proofs.Tryz.func108 ?_
 show Run Pg 14 c_108 ⟨[(0, .d t86 a0), (1, .d t86 a1)], []⟩ (fin108 r)
 unfold F108 at h
 refine qN [] 100 ⟨[(2, .ptr 100 0), (3, .ptr 101 0), (4, .ptr 102 0)], [(100, bx t86 a0), (101, bx t86 a1), (102, bx t86 ((false, ([] : List Int)), (false, ([] : List Int))))]⟩ aN ?_
 obtain ⟨y1, h_y1, h⟩ := bnd_elim h
 refine qN [(2, .call (.tup (.vcons (.d t86 y1.1) (.vcons (.d t2 y1.2) .vnil))))] 200 ⟨[(4, .ptr 102 0), (5, .ptr 206 0)], [(102, bx t86 ((false, ([] : List Int)), (false, ([] : List Int)))), (206, bx t86 y1.1)]⟩ (aC (c123 h_y1) aN) ?_
 refine qN [] 300 ⟨[(4, .ptr 102 0)], [(102, bx t86 y1.1)]⟩ aN ?_
 refine Run.rt ?_
 obtain rfl := sI h
 exact qR [(.d t86 y1.1)]

/-! ## f85 -/

noncomputable def c_85 : Code := body0 Go.Proofs.Tryz.f85

def fin85 (r : RatL) : Ex → St → Prop := endK X0 [.cell 6 87] [87] (.d t86 r)

def F85 (a0 : RatL × RatL) (a1 : RatL × RatL) (a2 : RatL × RatL) : Option RatL :=
 (F106 a0 a1).bind fun y1 =>
 (F106 a0 a2).bind fun y2 =>
 (F107 y1 y1).bind fun y3 =>
 (F107 y1 y2).bind fun y4 =>
 (F104 y4).bind fun y5 =>
 (bif (decide (y5 ≤ (0 : Int))) then
 (F107 y2 y2).bind fun y6 =>
 some y6
 else
 (F47 y4 y3).bind fun y7 =>
 (bif (decide ((0 : Int) ≤ y7)) then
 (F106 a1 a2).bind fun y8 =>
 (F107 y8 y8).bind fun y9 =>
 some y9
 else
 (F105 y1 y2).bind fun y10 =>
 (F109 y10 y10).bind fun y11 =>
 (F108 y11 y3).bind fun y12 =>
 some y12))

theorem c85 {a0 : RatL × RatL} {a1 : RatL × RatL} {a2 : RatL × RatL} {r : RatL} (h : F85 a0 a1 a2 = some r) : CallPure Pg 85 [(.d t101 a0), (.d t101 a1), (.d t101 a2)] (.d t86 r) := by
 refine qC c_85 49 [.cell 6 87] [87] Go.Proofs.Tryz.func85 ?_
 show Run Pg 49 c_85 ⟨[(0, .d t101 a0), (1, .d t101 a1), (2, .d t101 a2)], []⟩ (fin85 r)
 unfold F85 at h
 refine qN [] 100 ⟨[(3, .ptr 100 0), (4, .ptr 101 0), (5, .ptr 102 0), (6, .ptr 103 0)], [(100, bx t101 a0), (101, bx t101 a1), (102, bx t101 a2), (103, bx t86 ((false, ([] : List Int)), (false, ([] : List Int))))]⟩ aN ?_
 obtain ⟨y1, h_y1, h⟩ := bnd_elim h
 obtain ⟨y2, h_y2, h⟩ := bnd_elim h
 refine qN [(2, .call (.d t101 y1)), (5, .call (.d t101 y2))] 200 ⟨[(4, .ptr 101 0), (5, .ptr 102 0), (6, .ptr 103 0), (7, .ptr 206 0), (8, .ptr 207 0)], [(101, bx t101 a1), (102, bx t101 a2), (103, bx t86 ((false, ([] : List Int)), (false, ([] : List Int)))), (206, bx t101 y1), (207, bx t101 y2)]⟩ (aC (c106 h_y1) (aC (c106 h_y2) aN)) ?_
 obtain ⟨y3, h_y3, h⟩ := bnd_elim h
 obtain ⟨y4, h_y4, h⟩ := bnd_elim h
 refine qN [(2, .call (.d t86 y3)), (5, .call (.d t86 y4))] 300 ⟨[(4, .ptr 101 0), (5, .ptr 102 0), (6, .ptr 103 0), (7, .ptr 206 0), (8, .ptr 207 0), (9, .ptr 306 0), (10, .ptr 307 0)], [(101, bx t101 a1), (102, bx t101 a2), (103, bx t86 ((false, ([] : List Int)), (false, ([] : List Int)))), (206, bx t101 y1), (207, bx t101 y2), (306, bx t86 y3), (307, bx t86 y4)]⟩ (aC (c107 h_y3) (aC (c107 h_y4) aN)) ?_
 refine Run.sq ?_
 obtain ⟨y5, h_y5, h⟩ := bnd_elim h
 refine qN [(1, .call (.d t2 y5))] 400 ⟨[(4, .ptr 101 0), (5, .ptr 102 0), (6, .ptr 103 0), (7, .ptr 206 0), (8, .ptr 207 0), (9, .ptr 306 0), (10, .ptr 307 0), (27, .d t4 (decide (y5 ≤ (0 : Int))))], [(101, bx t101 a1), (102, bx t101 a2), (103, bx t86 ((false, ([] : List Int)), (false, ([] : List Int)))), (206, bx t101 y1), (207, bx t101 y2), (306, bx t86 y3), (307, bx t86 y4)]⟩ (aC (c104 h_y5) aN) ?_
 refine Run.cd (decide (y5 ≤ (0 : Int))) (fun hb => ?_) (fun hb => ?_)
 ·replace h := bif_t h hb
  obtain ⟨y6, h_y6, h⟩ := bnd_elim h
  refine qN [(2, .call (.d t86 y6))] 500 ⟨[(6, .ptr 103 0)], [(103, bx t86 y6)]⟩ (aC (c107 h_y6) aN) ?_
  refine Run.rt ?_
  obtain rfl := sI h
  exact qR [(.d t86 y6)]
 ·replace h := bif_f h hb
  refine Run.sk ?_
  show Run Pg 49 _ _ _
  refine Run.sq ?_
  obtain ⟨y7, h_y7, h⟩ := bnd_elim h
  refine qN [(2, .call (.d t2 y7))] 600 ⟨[(4, .ptr 101 0), (5, .ptr 102 0), (6, .ptr 103 0), (7, .ptr 206 0), (8, .ptr 207 0), (9, .ptr 306 0), (34, .d t4 (decide ((0 : Int) ≤ y7)))], [(101, bx t101 a1), (102, bx t101 a2), (103, bx t86 ((false, ([] : List Int)), (false, ([] : List Int)))), (206, bx t101 y1), (207, bx t101 y2), (306, bx t86 y3)]⟩ (aC (c47 h_y7) aN) ?_
  refine Run.cd (decide ((0 : Int) ≤ y7)) (fun hb => ?_) (fun hb => ?_)
  ·replace h := bif_t h hb
   obtain ⟨y8, h_y8, h⟩ := bnd_elim h
   refine qN [(2, .call (.d t101 y8))] 700 ⟨[(6, .ptr 103 0), (11, .ptr 703 0)], [(103, bx t86 ((false, ([] : List Int)), (false, ([] : List Int)))), (703, bx t101 y8)]⟩ (aC (c106 h_y8) aN) ?_
   obtain ⟨y9, h_y9, h⟩ := bnd_elim h
   refine qN [(2, .call (.d t86 y9))] 800 ⟨[(6, .ptr 103 0)], [(103, bx t86 y9)]⟩ (aC (c107 h_y9) aN) ?_
   refine Run.rt ?_
   obtain rfl := sI h
   exact qR [(.d t86 y9)]
  ·replace h := bif_f h hb
   refine Run.sk ?_
   show Run Pg 49 _ _ _
   obtain ⟨y10, h_y10, h⟩ := bnd_elim h
   refine qN [(2, .call (.d t86 y10))] 900 ⟨[(6, .ptr 103 0), (9, .ptr 306 0), (12, .ptr 903 0)], [(103, bx t86 ((false, ([] : List Int)), (false, ([] : List Int)))), (306, bx t86 y3), (903, bx t86 y10)]⟩ (aC (c105 h_y10) aN) ?_
   obtain ⟨y11, h_y11, h⟩ := bnd_elim h
   obtain ⟨y12, h_y12, h⟩ := bnd_elim h
   refine qN [(2, .call (.d t86 y11)), (4, .call (.d t86 y12))] 1000 ⟨[(6, .ptr 103 0)], [(103, bx t86 y12)]⟩ (aC (c109 h_y11) (aC (c108 h_y12) aN)) ?_
   refine Run.rt ?_
   obtain rfl := sI h
   exact qR [(.d t86 y12)]

/-! ## f68 -/

noncomputable def c_68 : Code := body0 Go.Proofs.Tryz.f68

def fin68 (r : RatL) : Ex → St → Prop := endK X0 [.cell 8 87] [87] (.d t86 r)

def f68_c1_post (x19 : List RatL) (x20 : Int) (x21 : Bool) (x22 : RatL) (x23 : RatL) : RatL → Ex → St → Prop
 | o, x, s => x = .nrm ∧ s = ⟨[(8, .ptr 104 0), (9, .ptr 404 0), (10, .d t116 x19), (11, .d t2 x20)], [(104, bx t86 x22), (404, bx t86 o)]⟩

def f68_c1 (x19 : List RatL) (x20 : Int) (x21 : Bool) (x23 : RatL) : Option RatL :=
 (bif x21 then
 gd (0 ≤ x20) <|
 gd (x20 < ((List.length x19 : Nat) : Int)) <|
 some (List.getD x19 (toN x20) ((false, ([] : List Int)), (false, ([] : List Int))))
 else
 some x23)

theorem f68_c1_ok (x19 : List RatL) (x20 : Int) (x21 : Bool) (x22 : RatL) (x23 : RatL) {out : RatL} (h : f68_c1 x19 x20 x21 x23 = some out) : Run Pg 53 (sq2 (bk1 (sq1 (sq2 (lp1 (bk1 (sq2 (sq1 (sq2 (sq2 (sq2 (sq2 c_68)))))))))))) ⟨[(8, .ptr 104 0), (9, .ptr 404 0), (10, .d t116 x19), (11, .d t2 x20), (47, .d t4 x21)], [(104, bx t86 x22), (404, bx t86 x23)]⟩ (f68_c1_post x19 x20 x21 x22 x23 out) := by
 unfold f68_c1 at h
 refine Run.cd x21 (fun hb => ?_) (fun hb => ?_)
 ·replace h := bif_t h hb
  obtain ⟨g_0, h⟩ := gd_elim h
  obtain ⟨g_1, h⟩ := gd_elim h
  refine qE [] 1000 ⟨[(8, .ptr 104 0), (9, .ptr 404 0), (10, .d t116 x19), (11, .d t2 x20)], [(104, bx t86 x22), (404, bx t86 (List.getD x19 (toN x20) ((false, ([] : List Int)), (false, ([] : List Int)))))]⟩ (aC g_0 (aC g_1 aN)) ?_
  obtain rfl := sI h
  exact ⟨rfl, by kernel_rfl⟩
 ·replace h := bif_f h hb
  refine qK ⟨[(8, .ptr 104 0), (9, .ptr 404 0), (10, .d t116 x19), (11, .d t2 x20)], [(104, bx t86 x22), (404, bx t86 x23)]⟩ ?_
  refine Run.sk ?_
  obtain rfl := sI h
  exact ⟨rfl, by kernel_rfl⟩

def f68_l0_post (x7 : List RatL) (x9 : RatL) : RatL → Ex → St → Prop
 | o, x, s => x = .out 0 ∧ s = ⟨[(8, .ptr 104 0), (9, .ptr 404 0)], [(104, bx t86 x9), (404, bx t86 o)]⟩

def f68_l0_b (x7 : List RatL) (again : Int × RatL → Option RatL) : Int × RatL → Option RatL
 | (x8, x10) =>
 (bif (decide (x8 < (ofN (List.length x7)))) then
 gd (0 ≤ x8) <|
 gd (x8 < ((List.length x7 : Nat) : Int)) <|
 (F47 (List.getD x7 (toN x8) ((false, ([] : List Int)), (false, ([] : List Int)))) x10).bind fun y18 =>
 ((f68_c1 x7 x8 (decide (y18 < (0 : Int))) x10).bind fun o24 =>
 again ((wrapI .i64 (x8 + (1 : Int))), o24))
 else
 some x10)

def f68_l0 (x7 : List RatL) : Nat → Int × RatL → Option RatL := loopF (f68_l0_b x7)

theorem f68_l0_ok (x7 : List RatL) (x9 : RatL) (k : Nat) (x8 : Int) (x10 : RatL) {out : RatL} (h : f68_l0 x7 k (x8, x10) = some out) : Run Pg 53 (bk1 (sq2 (sq1 (sq2 (sq2 (sq2 (sq2 c_68))))))) ⟨[(8, .ptr 104 0), (9, .ptr 404 0), (10, .d t116 x7), (11, .d t2 x8)], [(104, bx t86 x9), (404, bx t86 x10)]⟩ (f68_l0_post x7 x9 out) := by
 refine Run.loopN (by kernel_rfl) (fun m s => ∃ x8 x10, s = ⟨[(8, .ptr 104 0), (9, .ptr 404 0), (10, .d t116 x7), (11, .d t2 x8)], [(104, bx t86 x9), (404, bx t86 x10)]⟩ ∧ f68_l0 x7 m (x8, x10) = some out) ?_ k ⟨x8, x10,  rfl, h⟩
 rintro m s ⟨x8, x10,  rfl, h⟩
 cases m with
 | zero => cases h
 | succ m =>
 replace h : f68_l0_b x7 (f68_l0 x7 m) (x8, x10) = some out := h
 unfold f68_l0_b at h
 refine Run.sq ?_
 refine qN [] 700 ⟨[(8, .ptr 104 0), (9, .ptr 404 0), (10, .d t116 x7), (11, .d t2 x8), (38, .d t4 (decide (x8 < (ofN (List.length x7)))))], [(104, bx t86 x9), (404, bx t86 x10)]⟩ aN ?_
 refine Run.cd (decide (x8 < (ofN (List.length x7)))) (fun hb => ?_) (fun hb => ?_)
 ·replace h := bif_t h hb
  refine Run.sk ?_
  show Run Pg 53 _ _ _
  refine Run.sq ?_
  refine Run.bl 1 ?_
  obtain ⟨g_0, h⟩ := gd_elim h
  obtain ⟨g_1, h⟩ := gd_elim h
  obtain ⟨y18, h_y18, h⟩ := bnd_elim h
  refine qN [(5, .call (.d t2 y18))] 900 ⟨[(8, .ptr 104 0), (9, .ptr 404 0), (10, .d t116 x7), (11, .d t2 x8), (47, .d t4 (decide (y18 < (0 : Int))))], [(104, bx t86 x9), (404, bx t86 x10)]⟩ (aC g_0 (aC g_1 (aC (c47 h_y18) aN))) ?_
  obtain ⟨o24, h_o24, h⟩ := bnd_elim h
  refine Run.mono (f68_c1_ok x7 x8 (decide (y18 < (0 : Int))) x9 x10 h_o24) ?_
  rintro _ _ ⟨rfl, rfl⟩
  show Run Pg 53 _ _ _
  refine qE [] 800 ⟨[(8, .ptr 104 0), (9, .ptr 404 0), (10, .d t116 x7), (11, .d t2 (wrapI .i64 (x8 + (1 : Int))))], [(104, bx t86 x9), (404, bx t86 o24)]⟩ aN ?_
  exact ⟨m, Nat.lt_succ_self m, _, _, rfl, h⟩
 ·replace h := bif_f h hb
  refine qK ⟨[(8, .ptr 104 0), (9, .ptr 404 0)], [(104, bx t86 x9), (404, bx t86 x10)]⟩ ?_
  refine Run.ex 0 ?_
  obtain rfl := sI h
  exact ⟨rfl, by kernel_rfl⟩

def F68 (a0 : RatL × RatL) (a1 : RatL × RatL) (a2 : RatL × RatL) (a3 : RatL × RatL) : Option RatL :=
 (F84 a0 a1 a2 a3).bind fun y1 =>
 (bif y1 then
 (F50 (0 : Int)).bind fun y2 =>
 some y2
 else
 (F85 a0 a1 a2).bind fun y3 =>
 (F85 a0 a1 a3).bind fun y4 =>
 (F85 a2 a3 a0).bind fun y5 =>
 (F85 a2 a3 a1).bind fun y6 =>
 ((f68_l0 ([y4, y5, y6] : List RatL) (2 + List.length ([y4, y5, y6] : List RatL)) ((0 : Int), y3)).bind fun o25 =>
 some o25))

theorem c68 {a0 : RatL × RatL} {a1 : RatL × RatL} {a2 : RatL × RatL} {a3 : RatL × RatL} {r : RatL} (h : F68 a0 a1 a2 a3 = some r) : CallPure Pg 68 [(.d t101 a0), (.d t101 a1), (.d t101 a2), (.d t101 a3)] (.d t86 r) := by
 refine qC c_68 53 [.cell 8 87] [87] Go.Proofs.Tryz.func68 ?_
 show Run Pg 53 c_68 ⟨[(0, .d t101 a0), (1, .d t101 a1), (2, .d t101 a2), (3, .d t101 a3)], []⟩ (fin68 r)
 unfold F68 at h
 refine qN [] 100 ⟨[(4, .ptr 100 0), (5, .ptr 101 0), (6, .ptr 102 0), (7, .ptr 103 0), (8, .ptr 104 0)], [(100, bx t101 a0), (101, bx t101 a1), (102, bx t101 a2), (103, bx t101 a3), (104, bx t86 ((false, ([] : List Int)), (false, ([] : List Int))))]⟩ aN ?_
 refine Run.sq ?_
 obtain ⟨y1, h_y1, h⟩ := bnd_elim h
 refine qN [(4, .call (.d t4 y1))] 200 ⟨[(4, .ptr 100 0), (5, .ptr 101 0), (6, .ptr 102 0), (7, .ptr 103 0), (8, .ptr 104 0), (16, .d t4 y1)], [(100, bx t101 a0), (101, bx t101 a1), (102, bx t101 a2), (103, bx t101 a3), (104, bx t86 ((false, ([] : List Int)), (false, ([] : List Int))))]⟩ (aC (c84 h_y1) aN) ?_
 refine Run.cd y1 (fun hb => ?_) (fun hb => ?_)
 ·replace h := bif_t h hb
  obtain ⟨y2, h_y2, h⟩ := bnd_elim h
  refine qN [(0, .call (.d t86 y2))] 300 ⟨[(8, .ptr 104 0)], [(104, bx t86 y2)]⟩ (aC (c50 h_y2) aN) ?_
  refine Run.rt ?_
  obtain rfl := sI h
  exact qR [(.d t86 y2)]
 ·replace h := bif_f h hb
  refine Run.sk ?_
  show Run Pg 53 _ _ _
  obtain ⟨y3, h_y3, h⟩ := bnd_elim h
  refine qN [(3, .call (.d t86 y3))] 400 ⟨[(4, .ptr 100 0), (5, .ptr 101 0), (6, .ptr 102 0), (7, .ptr 103 0), (8, .ptr 104 0), (9, .ptr 404 0)], [(100, bx t101 a0), (101, bx t101 a1), (102, bx t101 a2), (103, bx t101 a3), (104, bx t86 ((false, ([] : List Int)), (false, ([] : List Int)))), (404, bx t86 y3)]⟩ (aC (c85 h_y3) aN) ?_
  obtain ⟨y4, h_y4, h⟩ := bnd_elim h
  obtain ⟨y5, h_y5, h⟩ := bnd_elim h
  obtain ⟨y6, h_y6, h⟩ := bnd_elim h
  refine qN [(3, .call (.d t86 y4)), (7, .call (.d t86 y5)), (11, .call (.d t86 y6))] 500 ⟨[(8, .ptr 104 0), (9, .ptr 404 0), (10, .d t116 ([y4, y5, y6] : List RatL))], [(104, bx t86 ((false, ([] : List Int)), (false, ([] : List Int)))), (404, bx t86 y3)]⟩ (aC (c85 h_y4) (aC (c85 h_y5) (aC (c85 h_y6) aN))) ?_
  refine Run.sq ?_
  refine qN [] 600 ⟨[(8, .ptr 104 0), (9, .ptr 404 0), (10, .d t116 ([y4, y5, y6] : List RatL)), (11, .d t2 (0 : Int))], [(104, bx t86 ((false, ([] : List Int)), (false, ([] : List Int)))), (404, bx t86 y3)]⟩ aN ?_
  refine Run.bl 0 ?_
  obtain ⟨o25, h_o25, h⟩ := bnd_elim h
  refine Run.mono (f68_l0_ok ([y4, y5, y6] : List RatL) ((false, ([] : List Int)), (false, ([] : List Int))) _ (0 : Int) y3 h_o25) ?_
  rintro _ _ ⟨rfl, rfl⟩
  show Run Pg 53 _ _ _
  refine qN [] 1100 ⟨[(8, .ptr 104 0)], [(104, bx t86 o25)]⟩ aN ?_
  refine Run.rt ?_
  obtain rfl := sI h
  exact qR [(.d t86 o25)]

/-! ## f48 -/

noncomputable def c_48 : Code := body0 Go.Proofs.Tryz.f48

def fin48 (r : RatL) : Ex → St → Prop := endK X0 [.cell 6 87] [87] (.d t86 r)

def f48_c1_post (x32 : List (RatL × RatL)) (x33 : Int) (x34 : Bool) (x35 : Int × Int) (x36 : Int × Int) (x37 : RatL) (x38 : RatL) (x39 : RatL) : RatL → Ex → St → Prop
 | o, x, s => x = .nrm ∧ s = ⟨[(4, .ptr 101 0), (5, .ptr 102 0), (6, .ptr 103 0), (7, .d t104 x32), (8, .ptr 500 0), (9, .d t2 x33)], [(101, bx t25 x35), (102, bx t25 x36), (103, bx t86 x37), (500, bx t86 o)]⟩

def f48_c1 (x34 : Bool) (x38 : RatL) (x39 : RatL) : Option RatL :=
 (bif x34 then
 some x39
 else
 some x38)

theorem f48_c1_ok (x32 : List (RatL × RatL)) (x33 : Int) (x34 : Bool) (x35 : Int × Int) (x36 : Int × Int) (x37 : RatL) (x38 : RatL) (x39 : RatL) {out : RatL} (h : f48_c1 x34 x38 x39 = some out) : Run Pg 76 (sq2 (sq2 (bk1 (sq1 (sq2 (lp1 (bk1 (sq2 (sq1 (sq2 (sq2 (sq2 (sq2 c_48))))))))))))) ⟨[(4, .ptr 101 0), (5, .ptr 102 0), (6, .ptr 103 0), (7, .d t104 x32), (8, .ptr 500 0), (9, .d t2 x33), (10, .ptr 921 0), (73, .d t4 x34)], [(101, bx t25 x35), (102, bx t25 x36), (103, bx t86 x37), (500, bx t86 x38), (921, bx t86 x39)]⟩ (f48_c1_post x32 x33 x34 x35 x36 x37 x38 x39 out) := by
 unfold f48_c1 at h
 refine Run.cd x34 (fun hb => ?_) (fun hb => ?_)
 ·replace h := bif_t h hb
  refine qE [] 1100 ⟨[(4, .ptr 101 0), (5, .ptr 102 0), (6, .ptr 103 0), (7, .d t104 x32), (8, .ptr 500 0), (9, .d t2 x33)], [(101, bx t25 x35), (102, bx t25 x36), (103, bx t86 x37), (500, bx t86 x39)]⟩ aN ?_
  obtain rfl := sI h
  exact ⟨rfl, by kernel_rfl⟩
 ·replace h := bif_f h hb
  refine qK ⟨[(4, .ptr 101 0), (5, .ptr 102 0), (6, .ptr 103 0), (7, .d t104 x32), (8, .ptr 500 0), (9, .d t2 x33)], [(101, bx t25 x35), (102, bx t25 x36), (103, bx t86 x37), (500, bx t86 x38)]⟩ ?_
  refine Run.sk ?_
  obtain rfl := sI h
  exact ⟨rfl, by kernel_rfl⟩

def f48_l0_post (x9 : List (RatL × RatL)) (x11 : Int × Int) (x12 : Int × Int) (x13 : RatL) : RatL → Ex → St → Prop
 | o, x, s => x = .out 0 ∧ s = ⟨[(6, .ptr 103 0), (8, .ptr 500 0)], [(103, bx t86 x13), (500, bx t86 o)]⟩

def f48_l0_b (x9 : List (RatL × RatL)) (x11 : Int × Int) (x12 : Int × Int) (again : Int × RatL → Option RatL) : Int × RatL → Option RatL
 | (x10, x14) =>
 (bif (decide (x10 < (4 : Int))) then
 (F67 x11.1 x11.2).bind fun y28 =>
 (F67 x12.1 x12.2).bind fun y29 =>
 gd (0 ≤ x10) <|
 gd (x10 < ((List.length x9 : Nat) : Int)) <|
 gd (0 ≤ (Int.tmod (wrapI .i64 (x10 + (1 : Int))) (4 : Int))) <|
 gd ((Int.tmod (wrapI .i64 (x10 + (1 : Int))) (4 : Int)) < ((List.length x9 : Nat) : Int)) <|
 (F68 y28 y29 (List.getD x9 (toN x10) (((false, ([] : List Int)), (false, ([] : List Int))), ((false, ([] : List Int)), (false, ([] : List Int))))) (List.getD x9 (toN (Int.tmod (wrapI .i64 (x10 + (1 : Int))) (4 : Int))) (((false, ([] : List Int)), (false, ([] : List Int))), ((false, ([] : List Int)), (false, ([] : List Int)))))).bind fun y30 =>
 (bif (x10 == (0 : Int)) then
 again ((wrapI .i64 (x10 + (1 : Int))), y30)
 else
 (F47 y30 x14).bind fun y31 =>
 ((f48_c1 (decide (y31 < (0 : Int))) x14 y30).bind fun o40 =>
 again ((wrapI .i64 (x10 + (1 : Int))), o40)))
 else
 some x14)

def f48_l0 (x9 : List (RatL × RatL)) (x11 : Int × Int) (x12 : Int × Int) : Nat → Int × RatL → Option RatL := loopF (f48_l0_b x9 x11 x12)

theorem f48_l0_ok (x9 : List (RatL × RatL)) (x11 : Int × Int) (x12 : Int × Int) (x13 : RatL) (k : Nat) (x10 : Int) (x14 : RatL) {out : RatL} (h : f48_l0 x9 x11 x12 k (x10, x14) = some out) : Run Pg 76 (bk1 (sq2 (sq1 (sq2 (sq2 (sq2 (sq2 c_48))))))) ⟨[(4, .ptr 101 0), (5, .ptr 102 0), (6, .ptr 103 0), (7, .d t104 x9), (8, .ptr 500 0), (9, .d t2 x10)], [(101, bx t25 x11), (102, bx t25 x12), (103, bx t86 x13), (500, bx t86 x14)]⟩ (f48_l0_post x9 x11 x12 x13 out) := by
 refine Run.loopN (by kernel_rfl) (fun m s => ∃ x10 x14, s = ⟨[(4, .ptr 101 0), (5, .ptr 102 0), (6, .ptr 103 0), (7, .d t104 x9), (8, .ptr 500 0), (9, .d t2 x10)], [(101, bx t25 x11), (102, bx t25 x12), (103, bx t86 x13), (500, bx t86 x14)]⟩ ∧ f48_l0 x9 x11 x12 m (x10, x14) = some out) ?_ k ⟨x10, x14,  rfl, h⟩
 rintro m s ⟨x10, x14,  rfl, h⟩
 cases m with
 | zero => cases h
 | succ m =>
 replace h : f48_l0_b x9 x11 x12 (f48_l0 x9 x11 x12 m) (x10, x14) = some out := h
 unfold f48_l0_b at h
 refine Run.sq ?_
 refine qN [] 700 ⟨[(4, .ptr 101 0), (5, .ptr 102 0), (6, .ptr 103 0), (7, .d t104 x9), (8, .ptr 500 0), (9, .d t2 x10), (42, .d t4 (decide (x10 < (4 : Int))))], [(101, bx t25 x11), (102, bx t25 x12), (103, bx t86 x13), (500, bx t86 x14)]⟩ aN ?_
 refine Run.cd (decide (x10 < (4 : Int))) (fun hb => ?_) (fun hb => ?_)
 ·replace h := bif_t h hb
  refine Run.sk ?_
  show Run Pg 76 _ _ _
  refine Run.sq ?_
  refine Run.bl 1 ?_
  obtain ⟨y28, h_y28, h⟩ := bnd_elim h
  obtain ⟨y29, h_y29, h⟩ := bnd_elim h
  obtain ⟨g_2, h⟩ := gd_elim h
  obtain ⟨g_3, h⟩ := gd_elim h
  obtain ⟨g_5, h⟩ := gd_elim h
  obtain ⟨g_6, h⟩ := gd_elim h
  obtain ⟨y30, h_y30, h⟩ := bnd_elim h
  refine qN [(4, .call (.d t101 y28)), (9, .call (.d t101 y29)), (20, .call (.d t86 y30))] 900 ⟨[(4, .ptr 101 0), (5, .ptr 102 0), (6, .ptr 103 0), (7, .d t104 x9), (8, .ptr 500 0), (9, .d t2 x10), (10, .ptr 921 0)], [(101, bx t25 x11), (102, bx t25 x12), (103, bx t86 x13), (500, bx t86 x14), (921, bx t86 y30)]⟩ (aC (c67 h_y28) (aC (c67 h_y29) (aC g_2 (aC g_3 (aC (show ((4 : Int) ≠ 0) from (by decide)) (aC g_5 (aC g_6 (aC (c68 h_y30) aN)))))))) ?_
  rcases bif_elim h with ⟨hb0, h⟩ | ⟨hb0, h⟩
  ·refine qN [(2, .b true)] 1000 ⟨[(4, .ptr 101 0), (5, .ptr 102 0), (6, .ptr 103 0), (7, .d t104 x9), (8, .ptr 500 0), (9, .d t2 x10), (10, .ptr 921 0), (73, .d t4 true)], [(101, bx t25 x11), (102, bx t25 x12), (103, bx t86 x13), (500, bx t86 x14), (921, bx t86 y30)]⟩ (aC hb0 aN) ?_
   refine Run.cd true (fun hb => ?_) (fun hb => (by cases hb))
   refine qE [] 1100 ⟨[(4, .ptr 101 0), (5, .ptr 102 0), (6, .ptr 103 0), (7, .d t104 x9), (8, .ptr 500 0), (9, .d t2 x10)], [(101, bx t25 x11), (102, bx t25 x12), (103, bx t86 x13), (500, bx t86 y30)]⟩ aN ?_
   show Run Pg 76 _ _ _
   refine qE [] 800 ⟨[(4, .ptr 101 0), (5, .ptr 102 0), (6, .ptr 103 0), (7, .d t104 x9), (8, .ptr 500 0), (9, .d t2 (wrapI .i64 (x10 + (1 : Int))))], [(101, bx t25 x11), (102, bx t25 x12), (103, bx t86 x13), (500, bx t86 y30)]⟩ aN ?_
   exact ⟨m, Nat.lt_succ_self m, _, _, rfl, h⟩
  ·obtain ⟨y31, h_y31, h⟩ := bnd_elim h
   refine qN [(2, .b false), (5, .call (.d t2 y31))] 1000 ⟨[(4, .ptr 101 0), (5, .ptr 102 0), (6, .ptr 103 0), (7, .d t104 x9), (8, .ptr 500 0), (9, .d t2 x10), (10, .ptr 921 0), (73, .d t4 (decide (y31 < (0 : Int))))], [(101, bx t25 x11), (102, bx t25 x12), (103, bx t86 x13), (500, bx t86 x14), (921, bx t86 y30)]⟩ (aC hb0 (aC (c47 h_y31) aN)) ?_
   obtain ⟨o40, h_o40, h⟩ := bnd_elim h
   refine Run.mono (f48_c1_ok x9 x10 (decide (y31 < (0 : Int))) x11 x12 x13 x14 y30 h_o40) ?_
   rintro _ _ ⟨rfl, rfl⟩
   show Run Pg 76 _ _ _
   refine qE [] 800 ⟨[(4, .ptr 101 0), (5, .ptr 102 0), (6, .ptr 103 0), (7, .d t104 x9), (8, .ptr 500 0), (9, .d t2 (wrapI .i64 (x10 + (1 : Int))))], [(101, bx t25 x11), (102, bx t25 x12), (103, bx t86 x13), (500, bx t86 o40)]⟩ aN ?_
   exact ⟨m, Nat.lt_succ_self m, _, _, rfl, h⟩
 ·replace h := bif_f h hb
  refine qK ⟨[(6, .ptr 103 0), (8, .ptr 500 0)], [(103, bx t86 x13), (500, bx t86 x14)]⟩ ?_
  refine Run.ex 0 ?_
  obtain rfl := sI h
  exact ⟨rfl, by kernel_rfl⟩

def F48 (a0 : Int × Int × Int × Int × Int) (a1 : Int × Int) (a2 : Int × Int) : Option RatL :=
 (F66 a0 a1).bind fun y1 =>
 (bif y1 then
 (F50 (0 : Int)).bind fun y3 =>
 some y3
 else
 (F66 a0 a2).bind fun y2 =>
 (bif y2 then
 (F50 (0 : Int)).bind fun y4 =>
 some y4
 else
 (F67 a0.1 a0.2.1).bind fun y5 =>
 (F67 a0.2.2.1 a0.2.1).bind fun y6 =>
 (F67 a0.2.2.1 a0.2.2.2.1).bind fun y7 =>
 (F67 a0.1 a0.2.2.2.1).bind fun y8 =>
 ((f48_l0 ([y5, y6, y7, y8] : List (RatL × RatL)) a1 a2 (2 + List.length ([y5, y6, y7, y8] : List (RatL × RatL))) ((0 : Int), ((false, ([] : List Int)), (false, ([] : List Int))))).bind fun o41 =>
 some o41)))

theorem c48 {a0 : Int × Int × Int × Int × Int} {a1 : Int × Int} {a2 : Int × Int} {r : RatL} (h : F48 a0 a1 a2 = some r) : CallPure Pg 48 [(.d t33 a0), (.d t25 a1), (.d t25 a2)] (.d t86 r) := by
 refine qC c_48 76 [.cell 6 87] [87] Go.Proofs.Tryz.func48 ?_
 show Run Pg 76 c_48 ⟨[(0, .d t33 a0), (1, .d t25 a1), (2, .d t25 a2)], []⟩ (fin48 r)
 unfold F48 at h
 refine qN [] 100 ⟨[(3, .ptr 100 0), (4, .ptr 101 0), (5, .ptr 102 0), (6, .ptr 103 0)], [(100, bx t33 a0), (101, bx t25 a1), (102, bx t25 a2), (103, bx t86 ((false, ([] : List Int)), (false, ([] : List Int))))]⟩ aN ?_
 refine Run.sq ?_
 obtain ⟨y1, h_y1, h⟩ := bnd_elim h
 rcases bif_elim h with ⟨hb1, h⟩ | ⟨hb1, h⟩
 ·refine qN [(2, .call (.d t4 y1)), (3, .b true)] 200 ⟨[(3, .ptr 100 0), (4, .ptr 101 0), (5, .ptr 102 0), (6, .ptr 103 0), (18, .d t4 true)], [(100, bx t33 a0), (101, bx t25 a1), (102, bx t25 a2), (103, bx t86 ((false, ([] : List Int)), (false, ([] : List Int))))]⟩ (aC (c66 h_y1) (aC hb1 aN)) ?_
  refine Run.cd true (fun hb => ?_) (fun hb => (by cases hb))
  obtain ⟨y3, h_y3, h⟩ := bnd_elim h
  refine qN [(0, .call (.d t86 y3))] 300 ⟨[(6, .ptr 103 0)], [(103, bx t86 y3)]⟩ (aC (c50 h_y3) aN) ?_
  refine Run.rt ?_
  obtain rfl := sI h
  exact qR [(.d t86 y3)]
 ·obtain ⟨y2, h_y2, h⟩ := bnd_elim h
  refine qN [(2, .call (.d t4 y1)), (3, .b false), (6, .call (.d t4 y2))] 200 ⟨[(3, .ptr 100 0), (4, .ptr 101 0), (5, .ptr 102 0), (6, .ptr 103 0), (18, .d t4 y2)], [(100, bx t33 a0), (101, bx t25 a1), (102, bx t25 a2), (103, bx t86 ((false, ([] : List Int)), (false, ([] : List Int))))]⟩ (aC (c66 h_y1) (aC hb1 (aC (c66 h_y2) aN))) ?_
  refine Run.cd y2 (fun hb => ?_) (fun hb => ?_)
  ·replace h := bif_t h hb
   obtain ⟨y4, h_y4, h⟩ := bnd_elim h
   refine qN [(0, .call (.d t86 y4))] 300 ⟨[(6, .ptr 103 0)], [(103, bx t86 y4)]⟩ (aC (c50 h_y4) aN) ?_
   refine Run.rt ?_
   obtain rfl := sI h
   exact qR [(.d t86 y4)]
  ·replace h := bif_f h hb
   refine Run.sk ?_
   show Run Pg 76 _ _ _
   obtain ⟨y5, h_y5, h⟩ := bnd_elim h
   obtain ⟨y6, h_y6, h⟩ := bnd_elim h
   obtain ⟨y7, h_y7, h⟩ := bnd_elim h
   obtain ⟨y8, h_y8, h⟩ := bnd_elim h
   refine qN [(4, .call (.d t101 y5)), (9, .call (.d t101 y6)), (14, .call (.d t101 y7)), (19, .call (.d t101 y8))] 400 ⟨[(4, .ptr 101 0), (5, .ptr 102 0), (6, .ptr 103 0), (7, .d t104 ([y5, y6, y7, y8] : List (RatL × RatL)))], [(101, bx t25 a1), (102, bx t25 a2), (103, bx t86 ((false, ([] : List Int)), (false, ([] : List Int))))]⟩ (aC (c67 h_y5) (aC (c67 h_y6) (aC (c67 h_y7) (aC (c67 h_y8) aN)))) ?_
   refine qN [] 500 ⟨[(4, .ptr 101 0), (5, .ptr 102 0), (6, .ptr 103 0), (7, .d t104 ([y5, y6, y7, y8] : List (RatL × RatL))), (8, .ptr 500 0)], [(101, bx t25 a1), (102, bx t25 a2), (103, bx t86 ((false, ([] : List Int)), (false, ([] : List Int)))), (500, bx t86 ((false, ([] : List Int)), (false, ([] : List Int))))]⟩ aN ?_
   refine Run.sq ?_
   refine qN [] 600 ⟨[(4, .ptr 101 0), (5, .ptr 102 0), (6, .ptr 103 0), (7, .d t104 ([y5, y6, y7, y8] : List (RatL × RatL))), (8, .ptr 500 0), (9, .d t2 (0 : Int))], [(101, bx t25 a1), (102, bx t25 a2), (103, bx t86 ((false, ([] : List Int)), (false, ([] : List Int)))), (500, bx t86 ((false, ([] : List Int)), (false, ([] : List Int))))]⟩ aN ?_
   refine Run.bl 0 ?_
   obtain ⟨o41, h_o41, h⟩ := bnd_elim h
   refine Run.mono (f48_l0_ok ([y5, y6, y7, y8] : List (RatL × RatL)) a1 a2 ((false, ([] : List Int)), (false, ([] : List Int))) _ (0 : Int) ((false, ([] : List Int)), (false, ([] : List Int))) h_o41) ?_
   rintro _ _ ⟨rfl, rfl⟩
   show Run Pg 76 _ _ _
   refine qN [] 1200 ⟨[(6, .ptr 103 0)], [(103, bx t86 o41)]⟩ aN ?_
   refine Run.rt ?_
   obtain rfl := sI h
   exact qR [(.d t86 o41)]

/-! ## f49 -/

noncomputable def c_49 : Code := body0 Go.Proofs.Tryz.f49

def fin49 (r : RatL) : Ex → St → Prop := endK X0 [.cell 2 87] [87] (.d t86 r)

def F49 (a0 : RatL) : Option RatL :=
 (F69 a0 a0).bind fun y1 =>
 some y1

theorem c49 {a0 : RatL} {r : RatL} (h : F49 a0 = some r) : CallPure Pg 49 [(.d t86 a0)] (.d t86 r) := by
 refine qC c_49 6 [.cell 2 87] [87] Go.Proofs.Tryz.func49 ?_
 show Run Pg 6 c_49 ⟨[(0, .d t86 a0)], []⟩ (fin49 r)
 unfold F49 at h
 refine qN [] 100 ⟨[(1, .ptr 100 0), (2, .ptr 101 0)], [(100, bx t86 a0), (101, bx t86 ((false, ([] : List Int)), (false, ([] : List Int))))]⟩ aN ?_
 obtain ⟨y1, h_y1, h⟩ := bnd_elim h
 refine qN [(2, .call (.d t86 y1))] 200 ⟨[(2, .ptr 101 0)], [(101, bx t86 y1)]⟩ (aC (c69 h_y1) aN) ?_
 refine Run.rt ?_
 obtain rfl := sI h
 exact qR [(.d t86 y1)]

/-! ## f22 -/

noncomputable def c_22 : Code := body0 Go.Proofs.Tryz.f22

def fin22 (r : Int × Bool) : Ex → St → Prop := endK X0 [.tmp 8, .tmp 9] [2, 4] (.tup (.vcons (.d t2 r.1) (.vcons (.d t4 r.2) .vnil)))

def f22_c1_post (x18 : Int) (x19 : Int) (x20 : Bool) (x21 : Int) (x22 : Bool) (x23 : Int × Int × Int × Int × Int × Int × (List (Int × Int × Int × Int × Int)) × Int) (x24 : Int × Int) (x25 : Int × Int) (x26 : Int × Int × Int × Int × Int) : (Int × Bool) → Ex → St → Prop
 | o, x, s => x = .nrm ∧ s = ⟨[(3, .d t2 x18), (4, .ptr 100 0), (5, .ptr 101 0), (6, .ptr 102 0), (10, .d t2 o.1), (11, .d t4 o.2), (12, .d t2 x21)], [(100, bx t23 x23), (101, bx t25 x24), (102, bx t25 x25)]⟩

def f22_c1 (x19 : Int) (x20 : Bool) (x22 : Bool) (x26 : Int × Int × Int × Int × Int) : Option (Int × Bool) :=
 (bif x22 then
 some (x26.2.2.2.2, true)
 else
 some (x19, x20))

theorem f22_c1_ok (x18 : Int) (x19 : Int) (x20 : Bool) (x21 : Int) (x22 : Bool) (x23 : Int × Int × Int × Int × Int × Int × (List (Int × Int × Int × Int × Int)) × Int) (x24 : Int × Int) (x25 : Int × Int) (x26 : Int × Int × Int × Int × Int) {out : (Int × Bool)} (h : f22_c1 x19 x20 x22 x26 = some out) : Run Pg 53 (sq2 (sq2 (bk1 (sq1 (sq2 (lp1 (bk1 (sq2 (sq1 (sq2 (sq2 c_22))))))))))) ⟨[(3, .d t2 x18), (4, .ptr 100 0), (5, .ptr 101 0), (6, .ptr 102 0), (10, .d t2 x19), (11, .d t4 x20), (12, .d t2 x21), (13, .ptr 605 0), (48, .d t4 x22)], [(100, bx t23 x23), (101, bx t25 x24), (102, bx t25 x25), (605, bx t33 x26)]⟩ (f22_c1_post x18 x19 x20 x21 x22 x23 x24 x25 x26 out) := by
 unfold f22_c1 at h
 refine Run.cd x22 (fun hb => ?_) (fun hb => ?_)
 ·replace h := bif_t h hb
  refine qE [] 800 ⟨[(3, .d t2 x18), (4, .ptr 100 0), (5, .ptr 101 0), (6, .ptr 102 0), (10, .d t2 x26.2.2.2.2), (11, .d t4 true), (12, .d t2 x21)], [(100, bx t23 x23), (101, bx t25 x24), (102, bx t25 x25)]⟩ aN ?_
  obtain rfl := sI h
  exact ⟨rfl, by kernel_rfl⟩
 ·replace h := bif_f h hb
  refine qK ⟨[(3, .d t2 x18), (4, .ptr 100 0), (5, .ptr 101 0), (6, .ptr 102 0), (10, .d t2 x19), (11, .d t4 x20), (12, .d t2 x21)], [(100, bx t23 x23), (101, bx t25 x24), (102, bx t25 x25)]⟩ ?_
  refine Run.sk ?_
  obtain rfl := sI h
  exact ⟨rfl, by kernel_rfl⟩

def f22_l0_post (x1 : Int) (x5 : Int × Int × Int × Int × Int × Int × (List (Int × Int × Int × Int × Int)) × Int) (x6 : Int × Int) (x7 : Int × Int) : (Int × Bool) → Ex → St → Prop
 | o, x, s => x = .out 0 ∧ s = ⟨[(10, .d t2 o.1), (11, .d t4 o.2)], []⟩

def f22_l0_b (x1 : Int) (x5 : Int × Int × Int × Int × Int × Int × (List (Int × Int × Int × Int × Int)) × Int) (x6 : Int × Int) (x7 : Int × Int) (again : Int × Bool × Int → Option (Int × Bool)) : Int × Bool × Int → Option (Int × Bool)
 | (x2, x3, x4) =>
 (bif (decide (x4 < (ofN (List.length x5.2.2.2.2.2.2.1)))) then
 gd (0 ≤ x4) <|
 gd (x4 < ((List.length x5.2.2.2.2.2.2.1 : Nat) : Int)) <|
 (bif (decide ((0 : Int) < x1)) then
 (F48 (List.getD x5.2.2.2.2.2.2.1 (toN x4) ((0 : Int), (0 : Int), (0 : Int), (0 : Int), (0 : Int))) x6 x7).bind fun y18 =>
 (F50 x1).bind fun y19 =>
 (F49 y19).bind fun y20 =>
 (F47 y18 y20).bind fun y21 =>
 (bif (decide (y21 < (0 : Int))) then
 (bif (!x3) then
 again ((List.getD x5.2.2.2.2.2.2.1 (toN x4) ((0 : Int), (0 : Int), (0 : Int), (0 : Int), (0 : Int))).2.2.2.2, true, (wrapI .i64 (x4 + (1 : Int))))
 else
 ((f22_c1 x2 x3 (decide (x2 < (List.getD x5.2.2.2.2.2.2.1 (toN x4) ((0 : Int), (0 : Int), (0 : Int), (0 : Int), (0 : Int))).2.2.2.2)) (List.getD x5.2.2.2.2.2.2.1 (toN x4) ((0 : Int), (0 : Int), (0 : Int), (0 : Int), (0 : Int)))).bind fun o27 =>
 again (o27.1, o27.2, (wrapI .i64 (x4 + (1 : Int))))))
 else
 again (x2, x3, (wrapI .i64 (x4 + (1 : Int)))))
 else
 again (x2, x3, (wrapI .i64 (x4 + (1 : Int)))))
 else
 some (x2, x3))

def f22_l0 (x1 : Int) (x5 : Int × Int × Int × Int × Int × Int × (List (Int × Int × Int × Int × Int)) × Int) (x6 : Int × Int) (x7 : Int × Int) : Nat → Int × Bool × Int → Option (Int × Bool) := loopF (f22_l0_b x1 x5 x6 x7)

theorem f22_l0_ok (x1 : Int) (x5 : Int × Int × Int × Int × Int × Int × (List (Int × Int × Int × Int × Int)) × Int) (x6 : Int × Int) (x7 : Int × Int) (k : Nat) (x2 : Int) (x3 : Bool) (x4 : Int) {out : (Int × Bool)} (h : f22_l0 x1 x5 x6 x7 k (x2, x3, x4) = some out) : Run Pg 53 (bk1 (sq2 (sq1 (sq2 (sq2 c_22))))) ⟨[(3, .d t2 x1), (4, .ptr 100 0), (5, .ptr 101 0), (6, .ptr 102 0), (10, .d t2 x2), (11, .d t4 x3), (12, .d t2 x4)], [(100, bx t23 x5), (101, bx t25 x6), (102, bx t25 x7)]⟩ (f22_l0_post x1 x5 x6 x7 out) := by
 refine Run.loopN (by kernel_rfl) (fun m s => ∃ x2 x3 x4, s = ⟨[(3, .d t2 x1), (4, .ptr 100 0), (5, .ptr 101 0), (6, .ptr 102 0), (10, .d t2 x2), (11, .d t4 x3), (12, .d t2 x4)], [(100, bx t23 x5), (101, bx t25 x6), (102, bx t25 x7)]⟩ ∧ f22_l0 x1 x5 x6 x7 m (x2, x3, x4) = some out) ?_ k ⟨x2, x3, x4,  rfl, h⟩
 rintro m s ⟨x2, x3, x4,  rfl, h⟩
 cases m with
 | zero => cases h
 | succ m =>
 replace h : f22_l0_b x1 x5 x6 x7 (f22_l0 x1 x5 x6 x7 m) (x2, x3, x4) = some out := h
 unfold f22_l0_b at h
 refine Run.sq ?_
 refine qN [] 400 ⟨[(3, .d t2 x1), (4, .ptr 100 0), (5, .ptr 101 0), (6, .ptr 102 0), (10, .d t2 x2), (11, .d t4 x3), (12, .d t2 x4), (18, .d t4 (decide (x4 < (ofN (List.length x5.2.2.2.2.2.2.1)))))], [(100, bx t23 x5), (101, bx t25 x6), (102, bx t25 x7)]⟩ aN ?_
 refine Run.cd (decide (x4 < (ofN (List.length x5.2.2.2.2.2.2.1)))) (fun hb => ?_) (fun hb => ?_)
 ·replace h := bif_t h hb
  refine Run.sk ?_
  show Run Pg 53 _ _ _
  refine Run.sq ?_
  refine Run.bl 1 ?_
  obtain ⟨g_0, h⟩ := gd_elim h
  obtain ⟨g_1, h⟩ := gd_elim h
  refine qN [] 600 ⟨[(3, .d t2 x1), (4, .ptr 100 0), (5, .ptr 101 0), (6, .ptr 102 0), (10, .d t2 x2), (11, .d t4 x3), (12, .d t2 x4), (13, .ptr 605 0)], [(100, bx t23 x5), (101, bx t25 x6), (102, bx t25 x7), (605, bx t33 (List.getD x5.2.2.2.2.2.2.1 (toN x4) ((0 : Int), (0 : Int), (0 : Int), (0 : Int), (0 : Int))))]⟩ (aC g_0 (aC g_1 aN)) ?_
  rcases bif_elim h with ⟨hb0, h⟩ | ⟨hb0, h⟩
  ·obtain ⟨y18, h_y18, h⟩ := bnd_elim h
   obtain ⟨y19, h_y19, h⟩ := bnd_elim h
   obtain ⟨y20, h_y20, h⟩ := bnd_elim h
   obtain ⟨y21, h_y21, h⟩ := bnd_elim h
   rcases bif_elim h with ⟨hb5, h⟩ | ⟨hb5, h⟩
   ·rcases bif_elim h with ⟨hb6, h⟩ | ⟨hb6, h⟩
    ·refine qN [(2, .b true), (6, .call (.d t86 y18)), (8, .call (.d t86 y19)), (9, .call (.d t86 y20)), (10, .call (.d t2 y21)), (13, .b true), (16, .b true)] 700 ⟨[(3, .d t2 x1), (4, .ptr 100 0), (5, .ptr 101 0), (6, .ptr 102 0), (10, .d t2 x2), (11, .d t4 x3), (12, .d t2 x4), (13, .ptr 605 0), (48, .d t4 true)], [(100, bx t23 x5), (101, bx t25 x6), (102, bx t25 x7), (605, bx t33 (List.getD x5.2.2.2.2.2.2.1 (toN x4) ((0 : Int), (0 : Int), (0 : Int), (0 : Int), (0 : Int))))]⟩ (aC hb0 (aC (c48 h_y18) (aC (c50 h_y19) (aC (c49 h_y20) (aC (c47 h_y21) (aC hb5 (aC hb6 aN))))))) ?_
     refine Run.cd true (fun hb => ?_) (fun hb => (by cases hb))
     refine qE [] 800 ⟨[(3, .d t2 x1), (4, .ptr 100 0), (5, .ptr 101 0), (6, .ptr 102 0), (10, .d t2 (List.getD x5.2.2.2.2.2.2.1 (toN x4) ((0 : Int), (0 : Int), (0 : Int), (0 : Int), (0 : Int))).2.2.2.2), (11, .d t4 true), (12, .d t2 x4)], [(100, bx t23 x5), (101, bx t25 x6), (102, bx t25 x7)]⟩ aN ?_
     show Run Pg 53 _ _ _
     refine qE [] 500 ⟨[(3, .d t2 x1), (4, .ptr 100 0), (5, .ptr 101 0), (6, .ptr 102 0), (10, .d t2 (List.getD x5.2.2.2.2.2.2.1 (toN x4) ((0 : Int), (0 : Int), (0 : Int), (0 : Int), (0 : Int))).2.2.2.2), (11, .d t4 true), (12, .d t2 (wrapI .i64 (x4 + (1 : Int))))], [(100, bx t23 x5), (101, bx t25 x6), (102, bx t25 x7)]⟩ aN ?_
     exact ⟨m, Nat.lt_succ_self m, _, _, _, rfl, h⟩
    ·refine qN [(2, .b true), (6, .call (.d t86 y18)), (8, .call (.d t86 y19)), (9, .call (.d t86 y20)), (10, .call (.d t2 y21)), (13, .b true), (16, .b false)] 700 ⟨[(3, .d t2 x1), (4, .ptr 100 0), (5, .ptr 101 0), (6, .ptr 102 0), (10, .d t2 x2), (11, .d t4 x3), (12, .d t2 x4), (13, .ptr 605 0), (48, .d t4 (decide (x2 < (List.getD x5.2.2.2.2.2.2.1 (toN x4) ((0 : Int), (0 : Int), (0 : Int), (0 : Int), (0 : Int))).2.2.2.2)))], [(100, bx t23 x5), (101, bx t25 x6), (102, bx t25 x7), (605, bx t33 (List.getD x5.2.2.2.2.2.2.1 (toN x4) ((0 : Int), (0 : Int), (0 : Int), (0 : Int), (0 : Int))))]⟩ (aC hb0 (aC (c48 h_y18) (aC (c50 h_y19) (aC (c49 h_y20) (aC (c47 h_y21) (aC hb5 (aC hb6 aN))))))) ?_
     obtain ⟨o27, h_o27, h⟩ := bnd_elim h
     refine Run.mono (f22_c1_ok x1 x2 x3 x4 (decide (x2 < (List.getD x5.2.2.2.2.2.2.1 (toN x4) ((0 : Int), (0 : Int), (0 : Int), (0 : Int), (0 : Int))).2.2.2.2)) x5 x6 x7 (List.getD x5.2.2.2.2.2.2.1 (toN x4) ((0 : Int), (0 : Int), (0 : Int), (0 : Int), (0 : Int))) h_o27) ?_
     rintro _ _ ⟨rfl, rfl⟩
     show Run Pg 53 _ _ _
     refine qE [] 500 ⟨[(3, .d t2 x1), (4, .ptr 100 0), (5, .ptr 101 0), (6, .ptr 102 0), (10, .d t2 o27.1), (11, .d t4 o27.2), (12, .d t2 (wrapI .i64 (x4 + (1 : Int))))], [(100, bx t23 x5), (101, bx t25 x6), (102, bx t25 x7)]⟩ aN ?_
     exact ⟨m, Nat.lt_succ_self m, _, _, _, rfl, h⟩
   ·refine qN [(2, .b true), (6, .call (.d t86 y18)), (8, .call (.d t86 y19)), (9, .call (.d t86 y20)), (10, .call (.d t2 y21)), (13, .b false)] 700 ⟨[(3, .d t2 x1), (4, .ptr 100 0), (5, .ptr 101 0), (6, .ptr 102 0), (10, .d t2 x2), (11, .d t4 x3), (12, .d t2 x4), (13, .ptr 605 0), (48, .d t4 false)], [(100, bx t23 x5), (101, bx t25 x6), (102, bx t25 x7), (605, bx t33 (List.getD x5.2.2.2.2.2.2.1 (toN x4) ((0 : Int), (0 : Int), (0 : Int), (0 : Int), (0 : Int))))]⟩ (aC hb0 (aC (c48 h_y18) (aC (c50 h_y19) (aC (c49 h_y20) (aC (c47 h_y21) (aC hb5 aN)))))) ?_
    refine Run.cd false (fun hb => (by cases hb)) (fun hb => ?_)
    refine Run.sk ?_
    show Run Pg 53 _ _ _
    refine qE [] 500 ⟨[(3, .d t2 x1), (4, .ptr 100 0), (5, .ptr 101 0), (6, .ptr 102 0), (10, .d t2 x2), (11, .d t4 x3), (12, .d t2 (wrapI .i64 (x4 + (1 : Int))))], [(100, bx t23 x5), (101, bx t25 x6), (102, bx t25 x7)]⟩ aN ?_
    exact ⟨m, Nat.lt_succ_self m, _, _, _, rfl, h⟩
  ·refine qN [(2, .b false)] 700 ⟨[(3, .d t2 x1), (4, .ptr 100 0), (5, .ptr 101 0), (6, .ptr 102 0), (10, .d t2 x2), (11, .d t4 x3), (12, .d t2 x4), (13, .ptr 605 0), (48, .d t4 false)], [(100, bx t23 x5), (101, bx t25 x6), (102, bx t25 x7), (605, bx t33 (List.getD x5.2.2.2.2.2.2.1 (toN x4) ((0 : Int), (0 : Int), (0 : Int), (0 : Int), (0 : Int))))]⟩ (aC hb0 aN) ?_
   refine Run.cd false (fun hb => (by cases hb)) (fun hb => ?_)
   refine Run.sk ?_
   show Run Pg 53 _ _ _
   refine qE [] 500 ⟨[(3, .d t2 x1), (4, .ptr 100 0), (5, .ptr 101 0), (6, .ptr 102 0), (10, .d t2 x2), (11, .d t4 x3), (12, .d t2 (wrapI .i64 (x4 + (1 : Int))))], [(100, bx t23 x5), (101, bx t25 x6), (102, bx t25 x7)]⟩ aN ?_
   exact ⟨m, Nat.lt_succ_self m, _, _, _, rfl, h⟩
 ·replace h := bif_f h hb
  refine qK ⟨[(10, .d t2 x2), (11, .d t4 x3)], []⟩ ?_
  refine Run.ex 0 ?_
  obtain rfl := sI h
  exact ⟨rfl, by kernel_rfl⟩

def F22 (a0 : Int × Int × Int × Int × Int × Int × (List (Int × Int × Int × Int × Int)) × Int) (a1 : Int × Int) (a2 : Int × Int) (a3 : Int) : Option (Int × Bool) :=
 ((f22_l0 a3 a0 a1 a2 (2 + List.length a0.2.2.2.2.2.2.1) ((0 : Int), false, (0 : Int))).bind fun o28 =>
 some (o28.1, o28.2))

theorem c22 {a0 : Int × Int × Int × Int × Int × Int × (List (Int × Int × Int × Int × Int)) × Int} {a1 : Int × Int} {a2 : Int × Int} {a3 : Int} {r : Int × Bool} (h : F22 a0 a1 a2 a3 = some r) : CallPure Pg 22 [(.d t23 a0), (.d t25 a1), (.d t25 a2), (.d t2 a3)] (.tup (.vcons (.d t2 r.1) (.vcons (.d t4 r.2) .vnil))) := by
 refine qC c_22 53 [.tmp 8, .tmp 9] [2, 4] Go.Proofs.Tryz.func22 ?_
 show Run Pg 53 c_22 ⟨[(0, .d t23 a0), (1, .d t25 a1), (2, .d t25 a2), (3, .d t2 a3)], []⟩ (fin22 r)
 unfold F22 at h
 refine qN [] 100 ⟨[(3, .d t2 a3), (4, .ptr 100 0), (5, .ptr 101 0), (6, .ptr 102 0)], [(100, bx t23 a0), (101, bx t25 a1), (102, bx t25 a2)]⟩ aN ?_
 refine qN [] 200 ⟨[(3, .d t2 a3), (4, .ptr 100 0), (5, .ptr 101 0), (6, .ptr 102 0), (10, .d t2 (0 : Int)), (11, .d t4 false)], [(100, bx t23 a0), (101, bx t25 a1), (102, bx t25 a2)]⟩ aN ?_
 refine Run.sq ?_
 refine qN [] 300 ⟨[(3, .d t2 a3), (4, .ptr 100 0), (5, .ptr 101 0), (6, .ptr 102 0), (10, .d t2 (0 : Int)), (11, .d t4 false), (12, .d t2 (0 : Int))], [(100, bx t23 a0), (101, bx t25 a1), (102, bx t25 a2)]⟩ aN ?_
 refine Run.bl 0 ?_
 obtain ⟨o28, h_o28, h⟩ := bnd_elim h
 refine Run.mono (f22_l0_ok a3 a0 a1 a2 _ (0 : Int) false (0 : Int) h_o28) ?_
 rintro _ _ ⟨rfl, rfl⟩
 show Run Pg 53 _ _ _
 refine qN [] 900 ⟨[(8, .d t2 o28.1), (9, .d t4 o28.2)], []⟩ aN ?_
 refine Run.rt ?_
 obtain rfl := sI h
 exact qR [(.d t2 o28.1), (.d t4 o28.2)]

/-! ## f10 -/

noncomputable def c_10 : Code := body0 Go.Proofs.Tryz.f10

def fin10 (r : Int) : Ex → St → Prop := endK X0 [.tmp 8] [2] (.d t2 r)

def f10_c0_post (x2 : Int) (x3 : Bool) : (Int) → Ex → St → Prop
 | o, x, s => x = .nrm ∧ s = ⟨[(9, .d t2 o)], []⟩

def f10_c0 (x2 : Int) (x3 : Bool) : Option (Int) :=
 (bif x3 then
 some (0 : Int)
 else
 some x2)

theorem f10_c0_ok (x2 : Int) (x3 : Bool) {out : (Int)} (h : f10_c0 x2 x3 = some out) : Run Pg 27 (sq2 (sq1 (sq2 (sq2 c_10)))) ⟨[(9, .d t2 x2), (24, .d t4 x3)], []⟩ (f10_c0_post x2 x3 out) := by
 unfold f10_c0 at h
 refine Run.cd x3 (fun hb => ?_) (fun hb => ?_)
 ·replace h := bif_t h hb
  refine qE [] 400 ⟨[(9, .d t2 (0 : Int))], []⟩ aN ?_
  obtain rfl := sI h
  exact ⟨rfl, by kernel_rfl⟩
 ·replace h := bif_f h hb
  refine qK ⟨[(9, .d t2 x2)], []⟩ ?_
  refine Run.sk ?_
  obtain rfl := sI h
  exact ⟨rfl, by kernel_rfl⟩

def F10 (a0 : Int × Int × Int × Int × Int × Int × (List (Int × Int × Int × Int × Int)) × Int) (a1 : Int × Int) (a2 : Int × Int) (a3 : Int) : Option (Int) :=
 (F22 a0 a1 a2 a3).bind fun y1 =>
 (bif (!y1.2) then
 some (wrapI .i64 ((0 : Int) + (1000 : Int)))
 else
 ((f10_c0 y1.1 (decide (y1.1 < (0 : Int)))).bind fun o4 =>
 some (wrapI .i64 (o4 + (1000 : Int)))))

theorem c10 {a0 : Int × Int × Int × Int × Int × Int × (List (Int × Int × Int × Int × Int)) × Int} {a1 : Int × Int} {a2 : Int × Int} {a3 : Int} {r : Int} (h : F10 a0 a1 a2 a3 = some r) : CallPure Pg 10 [(.d t23 a0), (.d t25 a1), (.d t25 a2), (.d t2 a3)] (.d t2 r) := by
 refine qC c_10 27 [.tmp 8] [2] Go.Proofs.Tryz.func10 ?_
 show Run Pg 27 c_10 ⟨[(0, .d t23 a0), (1, .d t25 a1), (2, .d t25 a2), (3, .d t2 a3)], []⟩ (fin10 r)
 unfold F10 at h
 refine qN [] 100 ⟨[(3, .d t2 a3), (4, .ptr 100 0), (5, .ptr 101 0), (6, .ptr 102 0)], [(100, bx t23 a0), (101, bx t25 a1), (102, bx t25 a2)]⟩ aN ?_
 obtain ⟨y1, h_y1, h⟩ := bnd_elim h
 refine qN [(4, .call (.tup (.vcons (.d t2 y1.1) (.vcons (.d t4 y1.2) .vnil))))] 200 ⟨[(9, .d t2 y1.1), (10, .d t4 y1.2)], []⟩ (aC (c22 h_y1) aN) ?_
 refine Run.sq ?_
 rcases bif_elim h with ⟨hb0, h⟩ | ⟨hb0, h⟩
 ·refine qN [(2, .b true)] 300 ⟨[(9, .d t2 y1.1), (24, .d t4 true)], []⟩ (aC hb0 aN) ?_
  refine Run.cd true (fun hb => ?_) (fun hb => (by cases hb))
  refine qE [] 400 ⟨[(9, .d t2 (0 : Int))], []⟩ aN ?_
  show Run Pg 27 _ _ _
  refine qN [] 500 ⟨[(8, .d t2 (wrapI .i64 ((0 : Int) + (1000 : Int))))], []⟩ aN ?_
  refine Run.rt ?_
  obtain rfl := sI h
  exact qR [(.d t2 (wrapI .i64 ((0 : Int) + (1000 : Int))))]
 ·refine qN [(2, .b false)] 300 ⟨[(9, .d t2 y1.1), (24, .d t4 (decide (y1.1 < (0 : Int))))], []⟩ (aC hb0 aN) ?_
  obtain ⟨o4, h_o4, h⟩ := bnd_elim h
  refine Run.mono (f10_c0_ok y1.1 (decide (y1.1 < (0 : Int))) h_o4) ?_
  rintro _ _ ⟨rfl, rfl⟩
  show Run Pg 27 _ _ _
  refine qN [] 500 ⟨[(8, .d t2 (wrapI .i64 (o4 + (1000 : Int))))], []⟩ aN ?_
  refine Run.rt ?_
  obtain rfl := sI h
  exact qR [(.d t2 (wrapI .i64 (o4 + (1000 : Int))))]

/-! ## f13 -/

noncomputable def c_13 : Code := body0 Go.Proofs.Tryz.f13

def fin13 (r : (List (Int × (Int × Int × Int) × (Int × Int) × Int)) × Int) : Ex → St → Prop := endK X0 [.tmp 10, .tmp 11] [40, 41] (.tup (.vcons (.d t40 r.1) (.vcons (.d t2 r.2) .vnil)))

def F13 (a0 : Int × Int × Int × Int × Int × Int × (List (Int × Int × Int × Int × Int)) × Int) (a1 : Int × Int × Int) (a2 : Int × Int × Int) (a3 : Int) (a4 : Int) : Option ((List (Int × (Int × Int × Int) × (Int × Int) × Int)) × Int) :=
 (F20 a0).bind fun y1 =>
 (bif (y1 != (0 : Int)) then
 some (([] : List (Int × (Int × Int × Int) × (Int × Int) × Int)), y1)
 else
 (bif (decide (a3 < (0 : Int))) then
 some (([] : List (Int × (Int × Int × Int) × (Int × Int) × Int)), (1 : Int))
 else
 (bif (decide (a4 ≤ (0 : Int))) then
 some (([] : List (Int × (Int × Int × Int) × (Int × Int) × Int)), (1 : Int))
 else
 (F29 a1).bind fun y2 =>
 (bif y2 then
 some (([] : List (Int × (Int × Int × Int) × (Int × Int) × Int)), (11 : Int))
 else
 (F29 a2).bind fun y3 =>
 (bif y3 then
 some (([] : List (Int × (Int × Int × Int) × (Int × Int) × Int)), (11 : Int))
 else
 (bif (decide ((10000000 : Int) < a3)) then
 some (([] : List (Int × (Int × Int × Int) × (Int × Int) × Int)), (11 : Int))
 else
 (F30 a1).bind fun y4 =>
 (F30 a2).bind fun y5 =>
 (bif (eqD t25 y4 y5) then
 (bif (decide (a1.2.2 < a2.2.2)) then
 (F31s0 a1 a2 (0 : Int) ([] : List (Int × (Int × Int × Int) × (Int × Int) × Int))).bind fun y6 =>
 some (y6.2, (0 : Int))
 else
 (F32s0 a1 a2 a4 ([] : List (Int × (Int × Int × Int) × (Int × Int) × Int))).bind fun y7 =>
 some (y7.2, (0 : Int)))
 else
 (F30 a1).bind fun y8 =>
 (F30 a2).bind fun y9 =>
 (F10 a0 y8 y9 a3).bind fun y10 =>
 (F31s0 a1 (a1.1, a1.2.1, (max2i (max2i y10 a1.2.2) a2.2.2)) (0 : Int) ([] : List (Int × (Int × Int × Int) × (Int × Int) × Int))).bind fun y11 =>
 (F31s0 y11.1 (a2.1, a2.2.1, (max2i (max2i y10 a1.2.2) a2.2.2)) (0 : Int) y11.2).bind fun y12 =>
 (F32s0 y12.1 a2 a4 y12.2).bind fun y13 =>
 some (y13.2, (0 : Int)))))))))

theorem c13 {a0 : Int × Int × Int × Int × Int × Int × (List (Int × Int × Int × Int × Int)) × Int} {a1 : Int × Int × Int} {a2 : Int × Int × Int} {a3 : Int} {a4 : Int} {r : (List (Int × (Int × Int × Int) × (Int × Int) × Int)) × Int} (h : F13 a0 a1 a2 a3 a4 = some r) : CallPure Pg 13 [(.d t23 a0), (.d t36 a1), (.d t36 a2), (.d t2 a3), (.d t2 a4)] (.tup (.vcons (.d t40 r.1) (.vcons (.d t2 r.2) .vnil))) := by
 refine qC c_13 90 [.tmp 10, .tmp 11] [40, 41] Go.Proofs.Tryz.func13 ?_
 show Run Pg 90 c_13 ⟨[(0, .d t23 a0), (1, .d t36 a1), (2, .d t36 a2), (3, .d t2 a3), (4, .d t2 a4)], []⟩ (fin13 r)
 unfold F13 at h
 refine qN [] 100 ⟨[(3, .d t2 a3), (4, .d t2 a4), (5, .ptr 100 0), (6, .ptr 101 0), (7, .ptr 102 0)], [(100, bx t23 a0), (101, bx t36 a1), (102, bx t36 a2)]⟩ aN ?_
 refine Run.sq ?_
 obtain ⟨y1, h_y1, h⟩ := bnd_elim h
 refine qN [(1, .call (.d t2 y1))] 200 ⟨[(3, .d t2 a3), (4, .d t2 a4), (5, .ptr 100 0), (6, .ptr 101 0), (7, .ptr 102 0), (12, .d t2 y1)], [(100, bx t23 a0), (101, bx t36 a1), (102, bx t36 a2)]⟩ (aC (c20 h_y1) aN) ?_
 refine qN [] 300 ⟨[(3, .d t2 a3), (4, .d t2 a4), (5, .ptr 100 0), (6, .ptr 101 0), (7, .ptr 102 0), (12, .d t2 y1), (18, .d t4 (y1 != (0 : Int)))], [(100, bx t23 a0), (101, bx t36 a1), (102, bx t36 a2)]⟩ aN ?_
 refine Run.cd (y1 != (0 : Int)) (fun hb => ?_) (fun hb => ?_)
 ·replace h := bif_t h hb
  refine qN [] 400 ⟨[(10, .nil), (11, .d t2 y1)], []⟩ aN ?_
  refine Run.rt ?_
  obtain rfl := sI h
  exact qR [(.d t40 ([] : List (Int × (Int × Int × Int) × (Int × Int) × Int))), (.d t2 y1)]
 ·replace h := bif_f h hb
  refine Run.sk ?_
  show Run Pg 90 _ _ _
  refine Run.sq ?_
  rcases bif_elim h with ⟨hb0, h⟩ | ⟨hb0, h⟩
  ·refine qN [(2, .b true)] 500 ⟨[(3, .d t2 a3), (4, .d t2 a4), (5, .ptr 100 0), (6, .ptr 101 0), (7, .ptr 102 0), (25, .d t4 true)], [(100, bx t23 a0), (101, bx t36 a1), (102, bx t36 a2)]⟩ (aC hb0 aN) ?_
   refine Run.cd true (fun hb => ?_) (fun hb => (by cases hb))
   refine qN [] 600 ⟨[(10, .nil), (11, .d t2 (1 : Int))], []⟩ aN ?_
   refine Run.rt ?_
   obtain rfl := sI h
   exact qR [(.d t40 ([] : List (Int × (Int × Int × Int) × (Int × Int) × Int))), (.d t2 (1 : Int))]
  ·refine qN [(2, .b false)] 500 ⟨[(3, .d t2 a3), (4, .d t2 a4), (5, .ptr 100 0), (6, .ptr 101 0), (7, .ptr 102 0), (25, .d t4 (decide (a4 ≤ (0 : Int))))], [(100, bx t23 a0), (101, bx t36 a1), (102, bx t36 a2)]⟩ (aC hb0 aN) ?_
   refine Run.cd (decide (a4 ≤ (0 : Int))) (fun hb => ?_) (fun hb => ?_)
   ·replace h := bif_t h hb
    refine qN [] 600 ⟨[(10, .nil), (11, .d t2 (1 : Int))], []⟩ aN ?_
    refine Run.rt ?_
    obtain rfl := sI h
    exact qR [(.d t40 ([] : List (Int × (Int × Int × Int) × (Int × Int) × Int))), (.d t2 (1 : Int))]
   ·replace h := bif_f h hb
    refine Run.sk ?_
    show Run Pg 90 _ _ _
    refine Run.sq ?_
    obtain ⟨y2, h_y2, h⟩ := bnd_elim h
    rcases bif_elim h with ⟨hb1, h⟩ | ⟨hb1, h⟩
    ·refine qN [(1, .call (.d t4 y2)), (2, .b true)] 700 ⟨[(3, .d t2 a3), (4, .d t2 a4), (5, .ptr 100 0), (6, .ptr 101 0), (7, .ptr 102 0), (35, .d t4 true)], [(100, bx t23 a0), (101, bx t36 a1), (102, bx t36 a2)]⟩ (aC (c29 h_y2) (aC hb1 aN)) ?_
     refine Run.cd true (fun hb => ?_) (fun hb => (by cases hb))
     refine qN [] 800 ⟨[(10, .nil), (11, .d t2 (11 : Int))], []⟩ aN ?_
     refine Run.rt ?_
     obtain rfl := sI h
     exact qR [(.d t40 ([] : List (Int × (Int × Int × Int) × (Int × Int) × Int))), (.d t2 (11 : Int))]
    ·obtain ⟨y3, h_y3, h⟩ := bnd_elim h
     rcases bif_elim h with ⟨hb3, h⟩ | ⟨hb3, h⟩
     ·refine qN [(1, .call (.d t4 y2)), (2, .b false), (4, .call (.d t4 y3)), (6, .b true)] 700 ⟨[(3, .d t2 a3), (4, .d t2 a4), (5, .ptr 100 0), (6, .ptr 101 0), (7, .ptr 102 0), (35, .d t4 true)], [(100, bx t23 a0), (101, bx t36 a1), (102, bx t36 a2)]⟩ (aC (c29 h_y2) (aC hb1 (aC (c29 h_y3) (aC hb3 aN)))) ?_
      refine Run.cd true (fun hb => ?_) (fun hb => (by cases hb))
      refine qN [] 800 ⟨[(10, .nil), (11, .d t2 (11 : Int))], []⟩ aN ?_
      refine Run.rt ?_
      obtain rfl := sI h
      exact qR [(.d t40 ([] : List (Int × (Int × Int × Int) × (Int × Int) × Int))), (.d t2 (11 : Int))]
     ·refine qN [(1, .call (.d t4 y2)), (2, .b false), (4, .call (.d t4 y3)), (6, .b false)] 700 ⟨[(3, .d t2 a3), (4, .d t2 a4), (5, .ptr 100 0), (6, .ptr 101 0), (7, .ptr 102 0), (35, .d t4 (decide ((10000000 : Int) < a3)))], [(100, bx t23 a0), (101, bx t36 a1), (102, bx t36 a2)]⟩ (aC (c29 h_y2) (aC hb1 (aC (c29 h_y3) (aC hb3 aN)))) ?_
      refine Run.cd (decide ((10000000 : Int) < a3)) (fun hb => ?_) (fun hb => ?_)
      ·replace h := bif_t h hb
       refine qN [] 800 ⟨[(10, .nil), (11, .d t2 (11 : Int))], []⟩ aN ?_
       refine Run.rt ?_
       obtain rfl := sI h
       exact qR [(.d t40 ([] : List (Int × (Int × Int × Int) × (Int × Int) × Int))), (.d t2 (11 : Int))]
      ·replace h := bif_f h hb
       refine Run.sk ?_
       show Run Pg 90 _ _ _
       refine qN [(1, .callO 69 t68 [])] 900 ⟨[(3, .d t2 a3), (4, .d t2 a4), (5, .ptr 100 0), (6, .ptr 101 0), (7, .ptr 102 0), (13, .ptr 902 0)], [(100, bx t23 a0), (101, bx t36 a1), (102, bx t36 a2), (901, .vec 69 t68 ([] : List (Int × (Int × Int × Int) × (Int × Int) × Int))), (902, .box (.vcons (.d t36 a1) (.vcons (.vec 901 t68) .vnil)))]⟩ aN ?_
       refine Run.sq ?_
       obtain ⟨y4, h_y4, h⟩ := bnd_elim h
       obtain ⟨y5, h_y5, h⟩ := bnd_elim h
       refine qN [(1, .call (.d t25 y4)), (3, .call (.d t25 y5))] 1000 ⟨[(3, .d t2 a3), (4, .d t2 a4), (5, .ptr 100 0), (6, .ptr 101 0), (7, .ptr 102 0), (13, .ptr 902 0), (42, .d t4 (eqD t25 y4 y5))], [(100, bx t23 a0), (101, bx t36 a1), (102, bx t36 a2), (901, .vec 69 t68 ([] : List (Int × (Int × Int × Int) × (Int × Int) × Int))), (902, .box (.vcons (.d t36 a1) (.vcons (.vec 901 t68) .vnil)))]⟩ (aC (c30 h_y4) (aC (c30 h_y5) aN)) ?_
       refine Run.cd (eqD t25 y4 y5) (fun hb => ?_) (fun hb => ?_)
       ·replace h := bif_t h hb
        refine Run.sq ?_
        refine qN [] 1100 ⟨[(4, .d t2 a4), (7, .ptr 102 0), (13, .ptr 902 0), (47, .d t4 (decide (a1.2.2 < a2.2.2)))], [(102, bx t36 a2), (901, .vec 69 t68 ([] : List (Int × (Int × Int × Int) × (Int × Int) × Int))), (902, .box (.vcons (.d t36 a1) (.vcons (.vec 901 t68) .vnil)))]⟩ aN ?_
        refine Run.cd (decide (a1.2.2 < a2.2.2)) (fun hb => ?_) (fun hb => ?_)
        ·replace h := bif_t h hb
         obtain ⟨y6, h_y6, h⟩ := bnd_elim h
         refine qN [(2, .callS [(900000, .vec 69 t68 ([] : List (Int × (Int × Int × Int) × (Int × Int) × Int)))] [(.agg (.vcons (.d t36 a1) (.vcons (.vec 900000 t68) .vnil))), (.d t36 a2), (.d t2 (0 : Int))] [(900000, 901)] (.agg (.vcons (.d t36 y6.1) (.vcons (.vec 900000 t68) .vnil))) [(900000, .vec 69 t68 y6.2)])] 1200 ⟨[(10, .vec 901 t68), (11, .d t2 (0 : Int))], [(901, .vec 69 t68 y6.2)]⟩ (aC (show (([(.agg (.vcons (.d t36 a1) (.vcons (.vec 901 t68) .vnil))), (.d t36 a2), (.d t2 (0 : Int))] : List V) = List.map (V.ren (renL [(900000, 901)] 1202)) [(.agg (.vcons (.d t36 a1) (.vcons (.vec 900000 t68) .vnil))), (.d t36 a2), (.d t2 (0 : Int))]) from (by kernel_rfl)) (aC (c31s0 h_y6) (aC (show ((some (.vec 69 t68 ([] : List (Int × (Int × Int × Int) × (Int × Int) × Int))) : Option E) = some (E.ren (renL [(900000, 901)] 1202) (.vec 69 t68 ([] : List (Int × (Int × Int × Int) × (Int × Int) × Int))))) from (by kernel_rfl)) aN))) ?_
         refine Run.freeze (s' := ⟨[(10, .d t40 y6.2), (11, .d t2 (0 : Int))], []⟩) 901 (by kernel_rfl) ?_
         refine Run.rt ?_
         obtain rfl := sI h
         exact qR [(.d t40 y6.2), (.d t2 (0 : Int))]
        ·replace h := bif_f h hb
         refine Run.sk ?_
         show Run Pg 90 _ _ _
         obtain ⟨y7, h_y7, h⟩ := bnd_elim h
         refine qN [(3, .callS [(900000, .vec 69 t68 ([] : List (Int × (Int × Int × Int) × (Int × Int) × Int)))] [(.agg (.vcons (.d t36 a1) (.vcons (.vec 900000 t68) .vnil))), (.d t36 a2), (.d t2 a4)] [(900000, 901)] (.agg (.vcons (.d t36 y7.1) (.vcons (.vec 900000 t68) .vnil))) [(900000, .vec 69 t68 y7.2)])] 1300 ⟨[(10, .vec 901 t68), (11, .d t2 (0 : Int))], [(901, .vec 69 t68 y7.2)]⟩ (aC (show (([(.agg (.vcons (.d t36 a1) (.vcons (.vec 901 t68) .vnil))), (.d t36 a2), (.d t2 a4)] : List V) = List.map (V.ren (renL [(900000, 901)] 1303)) [(.agg (.vcons (.d t36 a1) (.vcons (.vec 900000 t68) .vnil))), (.d t36 a2), (.d t2 a4)]) from (by kernel_rfl)) (aC (c32s0 h_y7) (aC (show ((some (.vec 69 t68 ([] : List (Int × (Int × Int × Int) × (Int × Int) × Int))) : Option E) = some (E.ren (renL [(900000, 901)] 1303) (.vec 69 t68 ([] : List (Int × (Int × Int × Int) × (Int × Int) × Int))))) from (by kernel_rfl)) aN))) ?_
         refine Run.freeze (s' := ⟨[(10, .d t40 y7.2), (11, .d t2 (0 : Int))], []⟩) 901 (by kernel_rfl) ?_
         refine Run.rt ?_
         obtain rfl := sI h
         exact qR [(.d t40 y7.2), (.d t2 (0 : Int))]
       ·replace h := bif_f h hb
        refine Run.sk ?_
        show Run Pg 90 _ _ _
        obtain ⟨y8, h_y8, h⟩ := bnd_elim h
        obtain ⟨y9, h_y9, h⟩ := bnd_elim h
        obtain ⟨y10, h_y10, h⟩ := bnd_elim h
        refine qN [(2, .call (.d t25 y8)), (4, .call (.d t25 y9)), (6, .call (.d t2 y10))] 1400 ⟨[(4, .d t2 a4), (6, .ptr 101 0), (7, .ptr 102 0), (13, .ptr 902 0), (14, .d t2 (max2i (max2i y10 a1.2.2) a2.2.2))], [(101, bx t36 a1), (102, bx t36 a2), (901, .vec 69 t68 ([] : List (Int × (Int × Int × Int) × (Int × Int) × Int))), (902, .box (.vcons (.d t36 a1) (.vcons (.vec 901 t68) .vnil)))]⟩ (aC (c30 h_y8) (aC (c30 h_y9) (aC (c10 h_y10) aN))) ?_
        obtain ⟨y11, h_y11, h⟩ := bnd_elim h
        refine qN [(7, .callS [(900000, .vec 69 t68 ([] : List (Int × (Int × Int × Int) × (Int × Int) × Int)))] [(.agg (.vcons (.d t36 a1) (.vcons (.vec 900000 t68) .vnil))), (.d t36 (a1.1, a1.2.1, (max2i (max2i y10 a1.2.2) a2.2.2))), (.d t2 (0 : Int))] [(900000, 901)] (.agg (.vcons (.d t36 y11.1) (.vcons (.vec 900000 t68) .vnil))) [(900000, .vec 69 t68 y11.2)])] 1500 ⟨[(4, .d t2 a4), (7, .ptr 102 0), (13, .ptr 902 0), (14, .d t2 (max2i (max2i y10 a1.2.2) a2.2.2))], [(102, bx t36 a2), (901, .vec 69 t68 y11.2), (902, .box (.vcons (.d t36 y11.1) (.vcons (.vec 901 t68) .vnil)))]⟩ (aC (show (([(.agg (.vcons (.d t36 a1) (.vcons (.vec 901 t68) .vnil))), (.d t36 (a1.1, a1.2.1, (max2i (max2i y10 a1.2.2) a2.2.2))), (.d t2 (0 : Int))] : List V) = List.map (V.ren (renL [(900000, 901)] 1507)) [(.agg (.vcons (.d t36 a1) (.vcons (.vec 900000 t68) .vnil))), (.d t36 (a1.1, a1.2.1, (max2i (max2i y10 a1.2.2) a2.2.2))), (.d t2 (0 : Int))]) from (by kernel_rfl)) (aC (c31s0 h_y11) (aC (show ((some (.vec 69 t68 ([] : List (Int × (Int × Int × Int) × (Int × Int) × Int))) : Option E) = some (E.ren (renL [(900000, 901)] 1507) (.vec 69 t68 ([] : List (Int × (Int × Int × Int) × (Int × Int) × Int))))) from (by kernel_rfl)) aN))) ?_
        obtain ⟨y12, h_y12, h⟩ := bnd_elim h
        refine qN [(7, .callS [(900000, .vec 69 t68 y11.2)] [(.agg (.vcons (.d t36 y11.1) (.vcons (.vec 900000 t68) .vnil))), (.d t36 (a2.1, a2.2.1, (max2i (max2i y10 a1.2.2) a2.2.2))), (.d t2 (0 : Int))] [(900000, 901)] (.agg (.vcons (.d t36 y12.1) (.vcons (.vec 900000 t68) .vnil))) [(900000, .vec 69 t68 y12.2)])] 1600 ⟨[(4, .d t2 a4), (7, .ptr 102 0), (13, .ptr 902 0)], [(102, bx t36 a2), (901, .vec 69 t68 y12.2), (902, .box (.vcons (.d t36 y12.1) (.vcons (.vec 901 t68) .vnil)))]⟩ (aC (show (([(.agg (.vcons (.d t36 y11.1) (.vcons (.vec 901 t68) .vnil))), (.d t36 (a2.1, a2.2.1, (max2i (max2i y10 a1.2.2) a2.2.2))), (.d t2 (0 : Int))] : List V) = List.map (V.ren (renL [(900000, 901)] 1607)) [(.agg (.vcons (.d t36 y11.1) (.vcons (.vec 900000 t68) .vnil))), (.d t36 (a2.1, a2.2.1, (max2i (max2i y10 a1.2.2) a2.2.2))), (.d t2 (0 : Int))]) from (by kernel_rfl)) (aC (c31s0 h_y12) (aC (show ((some (.vec 69 t68 y11.2) : Option E) = some (E.ren (renL [(900000, 901)] 1607) (.vec 69 t68 y11.2))) from (by kernel_rfl)) aN))) ?_
        obtain ⟨y13, h_y13, h⟩ := bnd_elim h
        refine qN [(3, .callS [(900000, .vec 69 t68 y12.2)] [(.agg (.vcons (.d t36 y12.1) (.vcons (.vec 900000 t68) .vnil))), (.d t36 a2), (.d t2 a4)] [(900000, 901)] (.agg (.vcons (.d t36 y13.1) (.vcons (.vec 900000 t68) .vnil))) [(900000, .vec 69 t68 y13.2)])] 1700 ⟨[(10, .vec 901 t68), (11, .d t2 (0 : Int))], [(901, .vec 69 t68 y13.2)]⟩ (aC (show (([(.agg (.vcons (.d t36 y12.1) (.vcons (.vec 901 t68) .vnil))), (.d t36 a2), (.d t2 a4)] : List V) = List.map (V.ren (renL [(900000, 901)] 1703)) [(.agg (.vcons (.d t36 y12.1) (.vcons (.vec 900000 t68) .vnil))), (.d t36 a2), (.d t2 a4)]) from (by kernel_rfl)) (aC (c32s0 h_y13) (aC (show ((some (.vec 69 t68 y12.2) : Option E) = some (E.ren (renL [(900000, 901)] 1703) (.vec 69 t68 y12.2))) from (by kernel_rfl)) aN))) ?_
        refine Run.freeze (s' := ⟨[(10, .d t40 y13.2), (11, .d t2 (0 : Int))], []⟩) 901 (by kernel_rfl) ?_
        refine Run.rt ?_
        obtain rfl := sI h
        exact qR [(.d t40 y13.2), (.d t2 (0 : Int))]

/-! ## f14 -/

noncomputable def c_14 : Code := body0 Go.Proofs.Tryz.f14

def fin14 (r : Bool) : Ex → St → Prop := endK X0 [.tmp 4] [4] (.d t4 r)

def f14_l0_post (x1 : List (Int × (Int × Int × Int) × (Int × Int) × Int)) (x2 : List (Int × (Int × Int × Int) × (Int × Int) × Int)) : ((Unit) ⊕ (Bool)) → Ex → St → Prop
 | .inl o, x, s => x = .out 0 ∧ s = ⟨[], []⟩
 | .inr o, x, s => x = .ret ∧ fin14  o x s

def f14_l0_b (x1 : List (Int × (Int × Int × Int) × (Int × Int) × Int)) (x2 : List (Int × (Int × Int × Int) × (Int × Int) × Int)) (again : Int → Option ((Unit) ⊕ (Bool))) : Int → Option ((Unit) ⊕ (Bool))
 | x3 =>
 (bif (decide (x3 < (ofN (List.length x1)))) then
 gd (0 ≤ x3) <|
 gd (x3 < ((List.length x1 : Nat) : Int)) <|
 gd (0 ≤ x3) <|
 gd (x3 < ((List.length x2 : Nat) : Int)) <|
 (bif (!(eqD t68 (List.getD x1 (toN x3) ((0 : Int), ((0 : Int), (0 : Int), (0 : Int)), ((0 : Int), (0 : Int)), (0 : Int))) (List.getD x2 (toN x3) ((0 : Int), ((0 : Int), (0 : Int), (0 : Int)), ((0 : Int), (0 : Int)), (0 : Int))))) then
 some (.inr false)
 else
 again (wrapI .i64 (x3 + (1 : Int))))
 else
 some (.inl ()))

def f14_l0 (x1 : List (Int × (Int × Int × Int) × (Int × Int) × Int)) (x2 : List (Int × (Int × Int × Int) × (Int × Int) × Int)) : Nat → Int → Option ((Unit) ⊕ (Bool)) := loopF (f14_l0_b x1 x2)

theorem f14_l0_ok (x1 : List (Int × (Int × Int × Int) × (Int × Int) × Int)) (x2 : List (Int × (Int × Int × Int) × (Int × Int) × Int)) (k : Nat) (x3 : Int) {out : ((Unit) ⊕ (Bool))} (h : f14_l0 x1 x2 k x3 = some out) : Run Pg 26 (bk1 (sq2 (sq1 (sq2 (sq2 c_14))))) ⟨[(0, .d t40 x1), (1, .d t40 x2), (5, .d t2 x3)], []⟩ (f14_l0_post x1 x2 out) := by
 refine Run.loopN (by kernel_rfl) (fun m s => ∃ x3, s = ⟨[(0, .d t40 x1), (1, .d t40 x2), (5, .d t2 x3)], []⟩ ∧ f14_l0 x1 x2 m x3 = some out) ?_ k ⟨x3,  rfl, h⟩
 rintro m s ⟨x3,  rfl, h⟩
 cases m with
 | zero => cases h
 | succ m =>
 replace h : f14_l0_b x1 x2 (f14_l0 x1 x2 m) x3 = some out := h
 unfold f14_l0_b at h
 refine Run.sq ?_
 refine qN [] 500 ⟨[(0, .d t40 x1), (1, .d t40 x2), (5, .d t2 x3), (14, .d t4 (decide (x3 < (ofN (List.length x1)))))], []⟩ aN ?_
 refine Run.cd (decide (x3 < (ofN (List.length x1)))) (fun hb => ?_) (fun hb => ?_)
 ·replace h := bif_t h hb
  refine Run.sk ?_
  show Run Pg 26 _ _ _
  refine Run.sq ?_
  refine Run.bl 1 ?_
  obtain ⟨g_0, h⟩ := gd_elim h
  obtain ⟨g_1, h⟩ := gd_elim h
  obtain ⟨g_2, h⟩ := gd_elim h
  obtain ⟨g_3, h⟩ := gd_elim h
  refine qN [] 700 ⟨[(0, .d t40 x1), (1, .d t40 x2), (5, .d t2 x3), (25, .d t4 (!(eqD t68 (List.getD x1 (toN x3) ((0 : Int), ((0 : Int), (0 : Int), (0 : Int)), ((0 : Int), (0 : Int)), (0 : Int))) (List.getD x2 (toN x3) ((0 : Int), ((0 : Int), (0 : Int), (0 : Int)), ((0 : Int), (0 : Int)), (0 : Int))))))], []⟩ (aC g_0 (aC g_1 (aC g_2 (aC g_3 aN)))) ?_
  refine Run.cd (!(eqD t68 (List.getD x1 (toN x3) ((0 : Int), ((0 : Int), (0 : Int), (0 : Int)), ((0 : Int), (0 : Int)), (0 : Int))) (List.getD x2 (toN x3) ((0 : Int), ((0 : Int), (0 : Int), (0 : Int)), ((0 : Int), (0 : Int)), (0 : Int))))) (fun hb => ?_) (fun hb => ?_)
  ·replace h := bif_t h hb
   refine qN [] 800 ⟨[(4, .d t4 false)], []⟩ aN ?_
   refine Run.rt ?_
   obtain rfl := sI h
   exact ⟨rfl, [(.d t4 false)], by kernel_rfl, by kernel_rfl⟩
  ·replace h := bif_f h hb
   refine Run.sk ?_
   show Run Pg 26 _ _ _
   refine qE [] 600 ⟨[(0, .d t40 x1), (1, .d t40 x2), (5, .d t2 (wrapI .i64 (x3 + (1 : Int))))], []⟩ aN ?_
   exact ⟨m, Nat.lt_succ_self m, _, rfl, h⟩
 ·replace h := bif_f h hb
  refine qK ⟨[], []⟩ ?_
  refine Run.ex 0 ?_
  obtain rfl := sI h
  exact ⟨rfl, by kernel_rfl⟩

def F14 (a0 : List (Int × (Int × Int × Int) × (Int × Int) × Int)) (a1 : List (Int × (Int × Int × Int) × (Int × Int) × Int)) : Option (Bool) :=
 (bif ((ofN (List.length a0)) != (ofN (List.length a1))) then
 some false
 else
 ((f14_l0 a0 a1 (2 + List.length a0 + List.length a1) (0 : Int)).bind fun o4 => match o4 with
 | .inl o5 =>
 some true
 | .inr o6 =>
 some o6))

theorem c14 {a0 : List (Int × (Int × Int × Int) × (Int × Int) × Int)} {a1 : List (Int × (Int × Int × Int) × (Int × Int) × Int)} {r : Bool} (h : F14 a0 a1 = some r) : CallPure Pg 14 [(.d t40 a0), (.d t40 a1)] (.d t4 r) := by
 refine qC c_14 26 [.tmp 4] [4] Go.Proofs.Tryz.func14 ?_
 show Run Pg 26 c_14 ⟨[(0, .d t40 a0), (1, .d t40 a1)], []⟩ (fin14 r)
 unfold F14 at h
 refine qN [] 100 ⟨[(0, .d t40 a0), (1, .d t40 a1)], []⟩ aN ?_
 refine Run.sq ?_
 refine qN [] 200 ⟨[(0, .d t40 a0), (1, .d t40 a1), (10, .d t4 ((ofN (List.length a0)) != (ofN (List.length a1))))], []⟩ aN ?_
 refine Run.cd ((ofN (List.length a0)) != (ofN (List.length a1))) (fun hb => ?_) (fun hb => ?_)
 ·replace h := bif_t h hb
  refine qN [] 300 ⟨[(4, .d t4 false)], []⟩ aN ?_
  refine Run.rt ?_
  obtain rfl := sI h
  exact qR [(.d t4 false)]
 ·replace h := bif_f h hb
  refine Run.sk ?_
  show Run Pg 26 _ _ _
  refine Run.sq ?_
  refine qN [] 400 ⟨[(0, .d t40 a0), (1, .d t40 a1), (5, .d t2 (0 : Int))], []⟩ aN ?_
  refine Run.bl 0 ?_
  obtain ⟨o4, h_o4, h⟩ := bnd_elim h
  refine Run.mono (f14_l0_ok a0 a1 _ (0 : Int) h_o4) ?_
  rcases o4 with o5 | o6
  ·rintro _ _ ⟨rfl, rfl⟩
   show Run Pg 26 _ _ _
   refine qN [] 900 ⟨[(4, .d t4 true)], []⟩ aN ?_
   refine Run.rt ?_
   obtain rfl := sI h
   exact qR [(.d t4 true)]
  ·rintro _ s ⟨rfl, hr⟩
   obtain rfl := sI h
   exact hr

/-! ## f4 -/

noncomputable def c_4 : Code := body0 Go.Proofs.Tryz.f4

def fin4 (r : Bool) : Ex → St → Prop := endK X0 [.tmp 6] [4] (.d t4 r)

def F4 (a0 : Int × Int × Int × Int × Int × Int × (List (Int × Int × Int × Int × Int)) × Int) (a1 : (Int × Int × Int) × (Int × Int × Int)) (a2 : Int × Int) : Option (Bool) :=
 (F5 ).bind fun y1 =>
 (bif (!y1) then
 (F5 ).bind fun y3 =>
 some y3
 else
 (F11 a0).bind fun y2 =>
 (bif (!y2) then
 (F5 ).bind fun y4 =>
 some y4
 else
 (F12 a0 a1.1 a1.2 a2.1 a2.2).bind fun y5 =>
 (F13 a0 a1.1 a1.2 a2.1 a2.2).bind fun y6 =>
 (bif (y5.2 == y6.2) then
 (F14 y5.1 y6.1).bind fun y7 =>
 some y7
 else
 some false)))

theorem c4 {a0 : Int × Int × Int × Int × Int × Int × (List (Int × Int × Int × Int × Int)) × Int} {a1 : (Int × Int × Int) × (Int × Int × Int)} {a2 : Int × Int} {r : Bool} (h : F4 a0 a1 a2 = some r) : CallPure Pg 4 [(.d t23 a0), (.d t38 a1), (.d t25 a2)] (.d t4 r) := by
 refine qC c_4 53 [.tmp 6] [4] Go.Proofs.Tryz.func4 ?_
 show Run Pg 53 c_4 ⟨[(0, .d t23 a0), (1, .d t38 a1), (2, .d t25 a2)], []⟩ (fin4 r)
 unfold F4 at h
 refine qN [] 100 ⟨[(3, .ptr 100 0), (4, .ptr 101 0), (5, .ptr 102 0)], [(100, bx t23 a0), (101, bx t38 a1), (102, bx t25 a2)]⟩ aN ?_
 refine Run.sq ?_
 obtain ⟨y1, h_y1, h⟩ := bnd_elim h
 rcases bif_elim h with ⟨hb1, h⟩ | ⟨hb1, h⟩
 ·refine qN [(0, .call (.d t4 y1)), (2, .b true)] 200 ⟨[(3, .ptr 100 0), (4, .ptr 101 0), (5, .ptr 102 0), (17, .d t4 true)], [(100, bx t23 a0), (101, bx t38 a1), (102, bx t25 a2)]⟩ (aC (c5 h_y1) (aC hb1 aN)) ?_
  refine Run.cd true (fun hb => ?_) (fun hb => (by cases hb))
  obtain ⟨y3, h_y3, h⟩ := bnd_elim h
  refine qN [(0, .call (.d t4 y3))] 300 ⟨[(6, .d t4 y3)], []⟩ (aC (c5 h_y3) aN) ?_
  refine Run.rt ?_
  obtain rfl := sI h
  exact qR [(.d t4 y3)]
 ·obtain ⟨y2, h_y2, h⟩ := bnd_elim h
  refine qN [(0, .call (.d t4 y1)), (2, .b false), (4, .call (.d t4 y2))] 200 ⟨[(3, .ptr 100 0), (4, .ptr 101 0), (5, .ptr 102 0), (17, .d t4 (!y2))], [(100, bx t23 a0), (101, bx t38 a1), (102, bx t25 a2)]⟩ (aC (c5 h_y1) (aC hb1 (aC (c11 h_y2) aN))) ?_
  refine Run.cd (!y2) (fun hb => ?_) (fun hb => ?_)
  ·replace h := bif_t h hb
   obtain ⟨y4, h_y4, h⟩ := bnd_elim h
   refine qN [(0, .call (.d t4 y4))] 300 ⟨[(6, .d t4 y4)], []⟩ (aC (c5 h_y4) aN) ?_
   refine Run.rt ?_
   obtain rfl := sI h
   exact qR [(.d t4 y4)]
  ·replace h := bif_f h hb
   refine Run.sk ?_
   show Run Pg 53 _ _ _
   obtain ⟨y5, h_y5, h⟩ := bnd_elim h
   refine qN [(9, .call (.tup (.vcons (.d t40 y5.1) (.vcons (.d t2 y5.2) .vnil))))] 400 ⟨[(3, .ptr 100 0), (4, .ptr 101 0), (5, .ptr 102 0), (7, .d t40 y5.1), (8, .d t2 y5.2)], [(100, bx t23 a0), (101, bx t38 a1), (102, bx t25 a2)]⟩ (aC (show (0 ≤ (0 : Int)) from (by decide)) (aC (show (0 ≤ (1 : Int)) from (by decide)) (aC (show (0 ≤ (0 : Int)) from (by decide)) (aC (show (0 ≤ (1 : Int)) from (by decide)) (aC (c12 h_y5) aN))))) ?_
   obtain ⟨y6, h_y6, h⟩ := bnd_elim h
   refine qN [(9, .call (.tup (.vcons (.d t40 y6.1) (.vcons (.d t2 y6.2) .vnil))))] 500 ⟨[(7, .d t40 y5.1), (8, .d t2 y5.2), (9, .d t40 y6.1), (10, .d t2 y6.2)], []⟩ (aC (show (0 ≤ (0 : Int)) from (by decide)) (aC (show (0 ≤ (1 : Int)) from (by decide)) (aC (show (0 ≤ (0 : Int)) from (by decide)) (aC (show (0 ≤ (1 : Int)) from (by decide)) (aC (c13 h_y6) aN))))) ?_
   rcases bif_elim h with ⟨hb0, h⟩ | ⟨hb0, h⟩
   ·obtain ⟨y7, h_y7, h⟩ := bnd_elim h
    refine qN [(3, .b true), (6, .call (.d t4 y7))] 600 ⟨[(6, .d t4 y7)], []⟩ (aC hb0 (aC (c14 h_y7) aN)) ?_
    refine Run.rt ?_
    obtain rfl := sI h
    exact qR [(.d t4 y7)]
   ·refine qN [(3, .b false)] 600 ⟨[(6, .d t4 false)], []⟩ (aC hb0 aN) ?_
    refine Run.rt ?_
    obtain rfl := sI h
    exact qR [(.d t4 false)]


end Go.Sw
