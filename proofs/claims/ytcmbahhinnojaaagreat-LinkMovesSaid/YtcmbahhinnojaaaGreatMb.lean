/- Each function of the code computes the Lean function of the same number wherever that has a value; no other conditions. -/
import Derived.Test.YtcmbahhinnojaaaGreatMa
namespace Go.Sw
open Go Go.Sw
set_option linter.unusedSimpArgs false
set_option linter.unusedVariables false

/-! ## f141 -/

noncomputable def c_141 : Code := body0 Go.Proofs.Tryz.f141

def fin141 (r : (List Int)) : Ex → St → Prop := endK X0 [.tmp 4] [83] (.d t83 r)

def f141_c0_post (x1 : List Int) (x2 : List Int) (x3 : Bool) : ((List Int) × (List Int)) → Ex → St → Prop
 | o, x, s => x = .nrm ∧ s = ⟨[(0, .d t83 o.1), (1, .d t83 o.2)], []⟩

def f141_c0 (x1 : List Int) (x2 : List Int) (x3 : Bool) : Option ((List Int) × (List Int)) :=
 (bif x3 then
 some (x2, x1)
 else
 some (x1, x2))

theorem f141_c0_ok (x1 : List Int) (x2 : List Int) (x3 : Bool) {out : ((List Int) × (List Int))} (h : f141_c0 x1 x2 x3 = some out) : Run Pg 53 (sq2 (sq1 (sq2 c_141))) ⟨[(0, .d t83 x1), (1, .d t83 x2), (13, .d t4 x3)], []⟩ (f141_c0_post x1 x2 x3 out) := by
 unfold f141_c0 at h
 refine Run.cd x3 (fun hb => ?_) (fun hb => ?_)
 ·replace h := bif_t h hb
  refine qE [] 300 ⟨[(0, .d t83 x2), (1, .d t83 x1)], []⟩ aN ?_
  obtain rfl := sI h
  exact ⟨rfl, by kernel_rfl⟩
 ·replace h := bif_f h hb
  refine qK ⟨[(0, .d t83 x1), (1, .d t83 x2)], []⟩ ?_
  refine Run.sk ?_
  obtain rfl := sI h
  exact ⟨rfl, by kernel_rfl⟩

def f141_c2_post (x28 : List Int) (x29 : Int) (x30 : Int) (x31 : List Int) (x32 : Int) (x33 : Bool) (x34 : List Int) : (Int) → Ex → St → Prop
 | o, x, s => x = .nrm ∧ s = ⟨[(1, .d t83 x28), (5, .vec 403 t127), (8, .d t127 o), (20, .d t83 x31), (21, .d t2 x32), (22, .d t2 x29)], [(403, .vec 127 t127 x34)]⟩

def f141_c2 (x28 : List Int) (x29 : Int) (x30 : Int) (x33 : Bool) : Option (Int) :=
 (bif x33 then
 gd (0 ≤ x29) <|
 gd (x29 < ((List.length x28 : Nat) : Int)) <|
 some (wrapI .u32 (x30 + (List.getD x28 (toN x29) (0 : Int))))
 else
 some x30)

theorem f141_c2_ok (x28 : List Int) (x29 : Int) (x30 : Int) (x31 : List Int) (x32 : Int) (x33 : Bool) (x34 : List Int) {out : (Int)} (h : f141_c2 x28 x29 x30 x33 = some out) : Run Pg 53 (sq2 (sq1 (sq2 (sq2 (bk1 (sq1 (sq2 (sq2 (lp1 (bk1 (sq2 (sq1 (sq2 (sq2 (sq2 (sq2 c_141)))))))))))))))) ⟨[(1, .d t83 x28), (5, .vec 403 t127), (7, .d t2 x29), (8, .d t127 x30), (20, .d t83 x31), (21, .d t2 x32), (22, .d t2 x29), (33, .d t4 x33)], [(403, .vec 127 t127 x34)]⟩ (f141_c2_post x28 x29 x30 x31 x32 x33 x34 out) := by
 unfold f141_c2 at h
 refine Run.cd x33 (fun hb => ?_) (fun hb => ?_)
 ·replace h := bif_t h hb
  obtain ⟨g_0, h⟩ := gd_elim h
  obtain ⟨g_1, h⟩ := gd_elim h
  refine qE [] 1100 ⟨[(1, .d t83 x28), (5, .vec 403 t127), (8, .d t127 (wrapI .u32 (x30 + (List.getD x28 (toN x29) (0 : Int))))), (20, .d t83 x31), (21, .d t2 x32), (22, .d t2 x29)], [(403, .vec 127 t127 x34)]⟩ (aC g_0 (aC g_1 aN)) ?_
  obtain rfl := sI h
  exact ⟨rfl, by kernel_rfl⟩
 ·replace h := bif_f h hb
  refine qK ⟨[(1, .d t83 x28), (5, .vec 403 t127), (8, .d t127 x30), (20, .d t83 x31), (21, .d t2 x32), (22, .d t2 x29)], [(403, .vec 127 t127 x34)]⟩ ?_
  refine Run.sk ?_
  obtain rfl := sI h
  exact ⟨rfl, by kernel_rfl⟩

def f141_c3_post (x36 : List Int) (x37 : Int) (x38 : Int) (x39 : List Int) (x40 : Int) (x41 : Int) (x42 : Bool) (x43 : List Int) : (Int × Int) → Ex → St → Prop
 | o, x, s => x = .nrm ∧ s = ⟨[(1, .d t83 x36), (5, .vec 403 t127), (6, .d t127 o.1), (8, .d t127 o.2), (20, .d t83 x39), (21, .d t2 x40), (22, .d t2 x41)], [(403, .vec 127 t127 x43)]⟩

def f141_c3 (x37 : Int) (x38 : Int) (x42 : Bool) : Option (Int × Int) :=
 (bif x42 then
 some ((1 : Int), (wrapI .u32 (x38 - (1000000000 : Int))))
 else
 some (x37, x38))

theorem f141_c3_ok (x36 : List Int) (x37 : Int) (x38 : Int) (x39 : List Int) (x40 : Int) (x41 : Int) (x42 : Bool) (x43 : List Int) {out : (Int × Int)} (h : f141_c3 x37 x38 x42 = some out) : Run Pg 53 (sq2 (sq1 (sq2 (sq2 (sq2 (sq2 (bk1 (sq1 (sq2 (sq2 (lp1 (bk1 (sq2 (sq1 (sq2 (sq2 (sq2 (sq2 c_141)))))))))))))))))) ⟨[(1, .d t83 x36), (5, .vec 403 t127), (6, .d t127 x37), (8, .d t127 x38), (20, .d t83 x39), (21, .d t2 x40), (22, .d t2 x41), (41, .d t4 x42)], [(403, .vec 127 t127 x43)]⟩ (f141_c3_post x36 x37 x38 x39 x40 x41 x42 x43 out) := by
 unfold f141_c3 at h
 refine Run.cd x42 (fun hb => ?_) (fun hb => ?_)
 ·replace h := bif_t h hb
  refine qE [] 1400 ⟨[(1, .d t83 x36), (5, .vec 403 t127), (6, .d t127 (1 : Int)), (8, .d t127 (wrapI .u32 (x38 - (1000000000 : Int)))), (20, .d t83 x39), (21, .d t2 x40), (22, .d t2 x41)], [(403, .vec 127 t127 x43)]⟩ aN ?_
  obtain rfl := sI h
  exact ⟨rfl, by kernel_rfl⟩
 ·replace h := bif_f h hb
  refine qK ⟨[(1, .d t83 x36), (5, .vec 403 t127), (6, .d t127 x37), (8, .d t127 x38), (20, .d t83 x39), (21, .d t2 x40), (22, .d t2 x41)], [(403, .vec 127 t127 x43)]⟩ ?_
  refine Run.sk ?_
  obtain rfl := sI h
  exact ⟨rfl, by kernel_rfl⟩

def f141_l1_post (x5 : List Int) (x7 : List Int) (x8 : Int) : (Int × (List Int)) → Ex → St → Prop
 | o, x, s => x = .out 0 ∧ s = ⟨[(5, .vec 403 t127), (6, .d t127 o.1)], [(403, .vec 127 t127 o.2)]⟩

def f141_l1_b (x5 : List Int) (x7 : List Int) (x8 : Int) (again : Int × Int × (List Int) → Option (Int × (List Int))) : Int × Int × (List Int) → Option (Int × (List Int))
 | (x6, x9, x10) =>
 (bif (decide (x9 < x8)) then
 gd (0 ≤ x9) <|
 gd (x9 < ((List.length x7 : Nat) : Int)) <|
 ((f141_c2 x5 x9 (wrapI .u32 ((List.getD x7 (toN x9) (0 : Int)) + x6)) (decide (x9 < (ofN (List.length x5))))).bind fun o35 =>
 ((f141_c3 (0 : Int) o35 (decide ((1000000000 : Int) ≤ o35))).bind fun o44 =>
 gd (List.length (x10 ++ ([o44.2] : List Int)) ≤ 1073741824) <|
 again (o44.1, (wrapI .i64 (x9 + (1 : Int))), (x10 ++ ([o44.2] : List Int)))))
 else
 some (x6, x10))

def f141_l1 (x5 : List Int) (x7 : List Int) (x8 : Int) : Nat → Int × Int × (List Int) → Option (Int × (List Int)) := loopF (f141_l1_b x5 x7 x8)

theorem f141_l1_ok (x5 : List Int) (x7 : List Int) (x8 : Int) (k : Nat) (x6 : Int) (x9 : Int) (x10 : List Int) {out : (Int × (List Int))} (h : f141_l1 x5 x7 x8 k (x6, x9, x10) = some out) : Run Pg 53 (bk1 (sq2 (sq1 (sq2 (sq2 (sq2 (sq2 c_141))))))) ⟨[(1, .d t83 x5), (5, .vec 403 t127), (6, .d t127 x6), (20, .d t83 x7), (21, .d t2 x8), (22, .d t2 x9)], [(403, .vec 127 t127 x10)]⟩ (f141_l1_post x5 x7 x8 out) := by
 refine Run.loopN (by kernel_rfl) (fun m s => ∃ x6 x9 x10, s = ⟨[(1, .d t83 x5), (5, .vec 403 t127), (6, .d t127 x6), (20, .d t83 x7), (21, .d t2 x8), (22, .d t2 x9)], [(403, .vec 127 t127 x10)]⟩ ∧ f141_l1 x5 x7 x8 m (x6, x9, x10) = some out) ?_ k ⟨x6, x9, x10,  rfl, h⟩
 rintro m s ⟨x6, x9, x10,  rfl, h⟩
 cases m with
 | zero => cases h
 | succ m =>
 replace h : f141_l1_b x5 x7 x8 (f141_l1 x5 x7 x8 m) (x6, x9, x10) = some out := h
 unfold f141_l1_b at h
 refine qN [] 700 ⟨[(1, .d t83 x5), (5, .vec 403 t127), (6, .d t127 x6), (20, .d t83 x7), (21, .d t2 x8), (22, .d t2 x9), (23, .d t4 (decide (x9 < x8)))], [(403, .vec 127 t127 x10)]⟩ aN ?_
 refine Run.sq ?_
 refine Run.cd (decide (x9 < x8)) (fun hb => ?_) (fun hb => ?_)
 ·replace h := bif_t h hb
  refine Run.sk ?_
  show Run Pg 53 _ _ _
  refine Run.sq ?_
  refine Run.bl 1 ?_
  obtain ⟨g_0, h⟩ := gd_elim h
  obtain ⟨g_1, h⟩ := gd_elim h
  refine qN [] 800 ⟨[(1, .d t83 x5), (5, .vec 403 t127), (6, .d t127 x6), (7, .d t2 x9), (8, .d t127 (List.getD x7 (toN x9) (0 : Int))), (20, .d t83 x7), (21, .d t2 x8), (22, .d t2 x9)], [(403, .vec 127 t127 x10)]⟩ (aC g_0 (aC g_1 aN)) ?_
  refine qN [] 900 ⟨[(1, .d t83 x5), (5, .vec 403 t127), (7, .d t2 x9), (8, .d t127 (wrapI .u32 ((List.getD x7 (toN x9) (0 : Int)) + x6))), (20, .d t83 x7), (21, .d t2 x8), (22, .d t2 x9)], [(403, .vec 127 t127 x10)]⟩ aN ?_
  refine Run.sq ?_
  refine qN [] 1000 ⟨[(1, .d t83 x5), (5, .vec 403 t127), (7, .d t2 x9), (8, .d t127 (wrapI .u32 ((List.getD x7 (toN x9) (0 : Int)) + x6))), (20, .d t83 x7), (21, .d t2 x8), (22, .d t2 x9), (33, .d t4 (decide (x9 < (ofN (List.length x5)))))], [(403, .vec 127 t127 x10)]⟩ aN ?_
  obtain ⟨o35, h_o35, h⟩ := bnd_elim h
  refine Run.mono (f141_c2_ok x5 x9 (wrapI .u32 ((List.getD x7 (toN x9) (0 : Int)) + x6)) x7 x8 (decide (x9 < (ofN (List.length x5)))) x10 h_o35) ?_
  rintro _ _ ⟨rfl, rfl⟩
  show Run Pg 53 _ _ _
  refine qN [] 1200 ⟨[(1, .d t83 x5), (5, .vec 403 t127), (6, .d t127 (0 : Int)), (8, .d t127 o35), (20, .d t83 x7), (21, .d t2 x8), (22, .d t2 x9)], [(403, .vec 127 t127 x10)]⟩ aN ?_
  refine Run.sq ?_
  refine qN [] 1300 ⟨[(1, .d t83 x5), (5, .vec 403 t127), (6, .d t127 (0 : Int)), (8, .d t127 o35), (20, .d t83 x7), (21, .d t2 x8), (22, .d t2 x9), (41, .d t4 (decide ((1000000000 : Int) ≤ o35)))], [(403, .vec 127 t127 x10)]⟩ aN ?_
  obtain ⟨o44, h_o44, h⟩ := bnd_elim h
  refine Run.mono (f141_c3_ok x5 (0 : Int) o35 x7 x8 x9 (decide ((1000000000 : Int) ≤ o35)) x10 h_o44) ?_
  rintro _ _ ⟨rfl, rfl⟩
  show Run Pg 53 _ _ _
  obtain ⟨g_0, h⟩ := gd_elim h
  refine qE [] 1500 ⟨[(1, .d t83 x5), (5, .vec 403 t127), (6, .d t127 o44.1), (20, .d t83 x7), (21, .d t2 x8), (22, .d t2 x9)], [(403, .vec 127 t127 (x10 ++ ([o44.2] : List Int)))]⟩ (aC g_0 aN) ?_
  show Run Pg 53 _ _ _
  refine qE [] 1600 ⟨[(1, .d t83 x5), (5, .vec 403 t127), (6, .d t127 o44.1), (20, .d t83 x7), (21, .d t2 x8), (22, .d t2 (wrapI .i64 (x9 + (1 : Int))))], [(403, .vec 127 t127 (x10 ++ ([o44.2] : List Int)))]⟩ aN ?_
  exact ⟨m, Nat.lt_succ_self m, _, _, _, rfl, h⟩
 ·replace h := bif_f h hb
  refine qK ⟨[(5, .vec 403 t127), (6, .d t127 x6)], [(403, .vec 127 t127 x10)]⟩ ?_
  refine Run.ex 0 ?_
  obtain rfl := sI h
  exact ⟨rfl, by kernel_rfl⟩

def F141 (a0 : List Int) (a1 : List Int) : Option ((List Int)) :=
 ((f141_c0 a0 a1 (decide ((ofN (List.length a0)) < (ofN (List.length a1))))).bind fun o4 =>
 gd ((0 : Int) ≤ (wrapI .i64 ((ofN (List.length o4.1)) + (1 : Int)))) <|
 gd ((wrapI .i64 ((ofN (List.length o4.1)) + (1 : Int))) ≤ 1073741824) <|
 ((f141_l1 o4.2 o4.1 (ofN (List.length o4.1)) (2 + List.length o4.2 + List.length o4.1 + List.length (List.replicate (toN (0 : Int)) (0 : Int))) ((0 : Int), (0 : Int), (List.replicate (toN (0 : Int)) (0 : Int)))).bind fun o45 =>
 gd (List.length (o45.2 ++ ([o45.1] : List Int)) ≤ 1073741824) <|
 some (o45.2 ++ ([o45.1] : List Int))))

theorem c141 {a0 : List Int} {a1 : List Int} {r : (List Int)} (h : F141 a0 a1 = some r) : CallPure Pg 141 [(.d t83 a0), (.d t83 a1)] (.d t83 r) := by
 refine qC c_141 53 [.tmp 4] [83] Go.Proofs.Tryz.func141 ?_
 show Run Pg 53 c_141 ⟨[(0, .d t83 a0), (1, .d t83 a1)], []⟩ (fin141 r)
 unfold F141 at h
 refine qN [] 100 ⟨[(0, .d t83 a0), (1, .d t83 a1)], []⟩ aN ?_
 refine Run.sq ?_
 refine qN [] 200 ⟨[(0, .d t83 a0), (1, .d t83 a1), (13, .d t4 (decide ((ofN (List.length a0)) < (ofN (List.length a1)))))], []⟩ aN ?_
 obtain ⟨o4, h_o4, h⟩ := bnd_elim h
 refine Run.mono (f141_c0_ok a0 a1 (decide ((ofN (List.length a0)) < (ofN (List.length a1)))) h_o4) ?_
 rintro _ _ ⟨rfl, rfl⟩
 show Run Pg 53 _ _ _
 obtain ⟨g_1, h⟩ := gd_elim h
 obtain ⟨g_2, h⟩ := gd_elim h
 refine qN [] 400 ⟨[(0, .d t83 o4.1), (1, .d t83 o4.2), (5, .vec 403 t127)], [(403, .vec 127 t127 (List.replicate (toN (0 : Int)) (0 : Int)))]⟩ (aC (show (0 ≤ (0 : Int)) from (by decide)) (aC g_1 (aC g_2 aN))) ?_
 refine qN [] 500 ⟨[(0, .d t83 o4.1), (1, .d t83 o4.2), (5, .vec 403 t127), (6, .d t127 (0 : Int))], [(403, .vec 127 t127 (List.replicate (toN (0 : Int)) (0 : Int)))]⟩ aN ?_
 refine Run.sq ?_
 refine qN [] 600 ⟨[(1, .d t83 o4.2), (5, .vec 403 t127), (6, .d t127 (0 : Int)), (20, .d t83 o4.1), (21, .d t2 (ofN (List.length o4.1))), (22, .d t2 (0 : Int))], [(403, .vec 127 t127 (List.replicate (toN (0 : Int)) (0 : Int)))]⟩ aN ?_
 refine Run.bl 0 ?_
 obtain ⟨o45, h_o45, h⟩ := bnd_elim h
 refine Run.mono (f141_l1_ok o4.2 o4.1 (ofN (List.length o4.1)) _ (0 : Int) (0 : Int) (List.replicate (toN (0 : Int)) (0 : Int)) h_o45) ?_
 rintro _ _ ⟨rfl, rfl⟩
 show Run Pg 53 _ _ _
 obtain ⟨g_0, h⟩ := gd_elim h
 refine qN [] 1700 ⟨[(4, .vec 403 t127)], [(403, .vec 127 t127 (o45.2 ++ ([o45.1] : List Int)))]⟩ (aC g_0 aN) ?_
 refine Run.freeze (s' := ⟨[(4, .d t83 (o45.2 ++ ([o45.1] : List Int)))], []⟩) 403 (by kernel_rfl) ?_
 refine Run.rt ?_
 obtain rfl := sI h
 exact qR [(.d t83 (o45.2 ++ ([o45.1] : List Int)))]

/-! ## f142 -/

noncomputable def c_142 : Code := body0 Go.Proofs.Tryz.f142

def fin142 (r : (List Int)) : Ex → St → Prop := endK X0 [.tmp 4] [83] (.d t83 r)

def f142_c1_post (x26 : List Int) (x27 : Int) (x28 : Int) (x29 : Int) (x30 : List Int) (x31 : Int) (x32 : Bool) (x33 : List Int) : (Int) → Ex → St → Prop
 | o, x, s => x = .nrm ∧ s = ⟨[(1, .d t83 x26), (5, .vec 202 t127), (7, .d t2 x27), (8, .d t127 x28), (9, .d t127 o), (13, .d t83 x30), (14, .d t2 x31), (15, .d t2 x27)], [(202, .vec 127 t127 x33)]⟩

def f142_c1 (x26 : List Int) (x27 : Int) (x29 : Int) (x32 : Bool) : Option (Int) :=
 (bif x32 then
 gd (0 ≤ x27) <|
 gd (x27 < ((List.length x26 : Nat) : Int)) <|
 some (wrapI .u32 (x29 + (List.getD x26 (toN x27) (0 : Int))))
 else
 some x29)

theorem f142_c1_ok (x26 : List Int) (x27 : Int) (x28 : Int) (x29 : Int) (x30 : List Int) (x31 : Int) (x32 : Bool) (x33 : List Int) {out : (Int)} (h : f142_c1 x26 x27 x29 x32 = some out) : Run Pg 44 (sq2 (sq1 (sq2 (sq2 (bk1 (sq1 (sq2 (sq2 (lp1 (bk1 (sq2 (sq1 (sq2 (sq2 (sq2 c_142))))))))))))))) ⟨[(1, .d t83 x26), (5, .vec 202 t127), (7, .d t2 x27), (8, .d t127 x28), (9, .d t127 x29), (13, .d t83 x30), (14, .d t2 x31), (15, .d t2 x27), (24, .d t4 x32)], [(202, .vec 127 t127 x33)]⟩ (f142_c1_post x26 x27 x28 x29 x30 x31 x32 x33 out) := by
 unfold f142_c1 at h
 refine Run.cd x32 (fun hb => ?_) (fun hb => ?_)
 ·replace h := bif_t h hb
  obtain ⟨g_0, h⟩ := gd_elim h
  obtain ⟨g_1, h⟩ := gd_elim h
  refine qE [] 900 ⟨[(1, .d t83 x26), (5, .vec 202 t127), (7, .d t2 x27), (8, .d t127 x28), (9, .d t127 (wrapI .u32 (x29 + (List.getD x26 (toN x27) (0 : Int))))), (13, .d t83 x30), (14, .d t2 x31), (15, .d t2 x27)], [(202, .vec 127 t127 x33)]⟩ (aC g_0 (aC g_1 aN)) ?_
  obtain rfl := sI h
  exact ⟨rfl, by kernel_rfl⟩
 ·replace h := bif_f h hb
  refine qK ⟨[(1, .d t83 x26), (5, .vec 202 t127), (7, .d t2 x27), (8, .d t127 x28), (9, .d t127 x29), (13, .d t83 x30), (14, .d t2 x31), (15, .d t2 x27)], [(202, .vec 127 t127 x33)]⟩ ?_
  refine Run.sk ?_
  obtain rfl := sI h
  exact ⟨rfl, by kernel_rfl⟩

def f142_c2_post (x35 : List Int) (x36 : Int) (x37 : Int) (x38 : Int) (x39 : Int) (x40 : List Int) (x41 : Int) (x42 : Bool) (x43 : List Int) : (Int × Int) → Ex → St → Prop
 | o, x, s => x = .nrm ∧ s = ⟨[(1, .d t83 x35), (5, .vec 202 t127), (6, .d t127 o.1), (7, .d t2 x37), (8, .d t127 o.2), (9, .d t127 x39), (13, .d t83 x40), (14, .d t2 x41), (15, .d t2 x37)], [(202, .vec 127 t127 x43)]⟩

def f142_c2 (x36 : Int) (x38 : Int) (x42 : Bool) : Option (Int × Int) :=
 (bif x42 then
 some ((1 : Int), (wrapI .u32 (x38 + (1000000000 : Int))))
 else
 some (x36, x38))

theorem f142_c2_ok (x35 : List Int) (x36 : Int) (x37 : Int) (x38 : Int) (x39 : Int) (x40 : List Int) (x41 : Int) (x42 : Bool) (x43 : List Int) {out : (Int × Int)} (h : f142_c2 x36 x38 x42 = some out) : Run Pg 44 (sq2 (sq1 (sq2 (sq2 (sq2 (sq2 (bk1 (sq1 (sq2 (sq2 (lp1 (bk1 (sq2 (sq1 (sq2 (sq2 (sq2 c_142))))))))))))))))) ⟨[(1, .d t83 x35), (5, .vec 202 t127), (6, .d t127 x36), (7, .d t2 x37), (8, .d t127 x38), (9, .d t127 x39), (13, .d t83 x40), (14, .d t2 x41), (15, .d t2 x37), (33, .d t4 x42)], [(202, .vec 127 t127 x43)]⟩ (f142_c2_post x35 x36 x37 x38 x39 x40 x41 x42 x43 out) := by
 unfold f142_c2 at h
 refine Run.cd x42 (fun hb => ?_) (fun hb => ?_)
 ·replace h := bif_t h hb
  refine qE [] 1200 ⟨[(1, .d t83 x35), (5, .vec 202 t127), (6, .d t127 (1 : Int)), (7, .d t2 x37), (8, .d t127 (wrapI .u32 (x38 + (1000000000 : Int)))), (9, .d t127 x39), (13, .d t83 x40), (14, .d t2 x41), (15, .d t2 x37)], [(202, .vec 127 t127 x43)]⟩ aN ?_
  obtain rfl := sI h
  exact ⟨rfl, by kernel_rfl⟩
 ·replace h := bif_f h hb
  refine qK ⟨[(1, .d t83 x35), (5, .vec 202 t127), (6, .d t127 x36), (7, .d t2 x37), (8, .d t127 x38), (9, .d t127 x39), (13, .d t83 x40), (14, .d t2 x41), (15, .d t2 x37)], [(202, .vec 127 t127 x43)]⟩ ?_
  refine Run.sk ?_
  obtain rfl := sI h
  exact ⟨rfl, by kernel_rfl⟩

def f142_l0_post (x1 : List Int) (x3 : List Int) (x4 : Int) : ((List Int)) → Ex → St → Prop
 | o, x, s => x = .out 0 ∧ s = ⟨[(5, .vec 202 t127)], [(202, .vec 127 t127 o)]⟩

def f142_l0_b (x1 : List Int) (x3 : List Int) (x4 : Int) (again : Int × Int × (List Int) → Option ((List Int))) : Int × Int × (List Int) → Option ((List Int))
 | (x2, x5, x6) =>
 (bif (decide (x5 < x4)) then
 gd (0 ≤ x5) <|
 gd (x5 < ((List.length x3 : Nat) : Int)) <|
 ((f142_c1 x1 x5 x2 (decide (x5 < (ofN (List.length x1))))).bind fun o34 =>
 ((f142_c2 (0 : Int) (List.getD x3 (toN x5) (0 : Int)) (decide ((List.getD x3 (toN x5) (0 : Int)) < o34))).bind fun o44 =>
 gd (0 ≤ x5) <|
 gd (x5 < ((List.length x6 : Nat) : Int)) <|
 gd ((toN x5) < List.length x6) <|
 again (o44.1, (wrapI .i64 (x5 + (1 : Int))), (List.set x6 (toN x5) (wrapI .u32 (o44.2 - o34))))))
 else
 some x6)

def f142_l0 (x1 : List Int) (x3 : List Int) (x4 : Int) : Nat → Int × Int × (List Int) → Option ((List Int)) := loopF (f142_l0_b x1 x3 x4)

theorem f142_l0_ok (x1 : List Int) (x3 : List Int) (x4 : Int) (k : Nat) (x2 : Int) (x5 : Int) (x6 : List Int) {out : ((List Int))} (h : f142_l0 x1 x3 x4 k (x2, x5, x6) = some out) : Run Pg 44 (bk1 (sq2 (sq1 (sq2 (sq2 (sq2 c_142)))))) ⟨[(1, .d t83 x1), (5, .vec 202 t127), (6, .d t127 x2), (13, .d t83 x3), (14, .d t2 x4), (15, .d t2 x5)], [(202, .vec 127 t127 x6)]⟩ (f142_l0_post x1 x3 x4 out) := by
 refine Run.loopN (by kernel_rfl) (fun m s => ∃ x2 x5 x6, s = ⟨[(1, .d t83 x1), (5, .vec 202 t127), (6, .d t127 x2), (13, .d t83 x3), (14, .d t2 x4), (15, .d t2 x5)], [(202, .vec 127 t127 x6)]⟩ ∧ f142_l0 x1 x3 x4 m (x2, x5, x6) = some out) ?_ k ⟨x2, x5, x6,  rfl, h⟩
 rintro m s ⟨x2, x5, x6,  rfl, h⟩
 cases m with
 | zero => cases h
 | succ m =>
 replace h : f142_l0_b x1 x3 x4 (f142_l0 x1 x3 x4 m) (x2, x5, x6) = some out := h
 unfold f142_l0_b at h
 refine qN [] 500 ⟨[(1, .d t83 x1), (5, .vec 202 t127), (6, .d t127 x2), (13, .d t83 x3), (14, .d t2 x4), (15, .d t2 x5), (16, .d t4 (decide (x5 < x4)))], [(202, .vec 127 t127 x6)]⟩ aN ?_
 refine Run.sq ?_
 refine Run.cd (decide (x5 < x4)) (fun hb => ?_) (fun hb => ?_)
 ·replace h := bif_t h hb
  refine Run.sk ?_
  show Run Pg 44 _ _ _
  refine Run.sq ?_
  refine Run.bl 1 ?_
  obtain ⟨g_0, h⟩ := gd_elim h
  obtain ⟨g_1, h⟩ := gd_elim h
  refine qN [] 600 ⟨[(1, .d t83 x1), (5, .vec 202 t127), (6, .d t127 x2), (7, .d t2 x5), (8, .d t127 (List.getD x3 (toN x5) (0 : Int))), (13, .d t83 x3), (14, .d t2 x4), (15, .d t2 x5)], [(202, .vec 127 t127 x6)]⟩ (aC g_0 (aC g_1 aN)) ?_
  refine qN [] 700 ⟨[(1, .d t83 x1), (5, .vec 202 t127), (7, .d t2 x5), (8, .d t127 (List.getD x3 (toN x5) (0 : Int))), (9, .d t127 x2), (13, .d t83 x3), (14, .d t2 x4), (15, .d t2 x5)], [(202, .vec 127 t127 x6)]⟩ aN ?_
  refine Run.sq ?_
  refine qN [] 800 ⟨[(1, .d t83 x1), (5, .vec 202 t127), (7, .d t2 x5), (8, .d t127 (List.getD x3 (toN x5) (0 : Int))), (9, .d t127 x2), (13, .d t83 x3), (14, .d t2 x4), (15, .d t2 x5), (24, .d t4 (decide (x5 < (ofN (List.length x1)))))], [(202, .vec 127 t127 x6)]⟩ aN ?_
  obtain ⟨o34, h_o34, h⟩ := bnd_elim h
  refine Run.mono (f142_c1_ok x1 x5 (List.getD x3 (toN x5) (0 : Int)) x2 x3 x4 (decide (x5 < (ofN (List.length x1)))) x6 h_o34) ?_
  rintro _ _ ⟨rfl, rfl⟩
  show Run Pg 44 _ _ _
  refine qN [] 1000 ⟨[(1, .d t83 x1), (5, .vec 202 t127), (6, .d t127 (0 : Int)), (7, .d t2 x5), (8, .d t127 (List.getD x3 (toN x5) (0 : Int))), (9, .d t127 o34), (13, .d t83 x3), (14, .d t2 x4), (15, .d t2 x5)], [(202, .vec 127 t127 x6)]⟩ aN ?_
  refine Run.sq ?_
  refine qN [] 1100 ⟨[(1, .d t83 x1), (5, .vec 202 t127), (6, .d t127 (0 : Int)), (7, .d t2 x5), (8, .d t127 (List.getD x3 (toN x5) (0 : Int))), (9, .d t127 o34), (13, .d t83 x3), (14, .d t2 x4), (15, .d t2 x5), (33, .d t4 (decide ((List.getD x3 (toN x5) (0 : Int)) < o34)))], [(202, .vec 127 t127 x6)]⟩ aN ?_
  obtain ⟨o44, h_o44, h⟩ := bnd_elim h
  refine Run.mono (f142_c2_ok x1 (0 : Int) x5 (List.getD x3 (toN x5) (0 : Int)) o34 x3 x4 (decide ((List.getD x3 (toN x5) (0 : Int)) < o34)) x6 h_o44) ?_
  rintro _ _ ⟨rfl, rfl⟩
  show Run Pg 44 _ _ _
  obtain ⟨g_0, h⟩ := gd_elim h
  obtain ⟨g_1, h⟩ := gd_elim h
  obtain ⟨g_2, h⟩ := gd_elim h
  refine qE [] 1300 ⟨[(1, .d t83 x1), (5, .vec 202 t127), (6, .d t127 o44.1), (13, .d t83 x3), (14, .d t2 x4), (15, .d t2 x5)], [(202, .vec 127 t127 (List.set x6 (toN x5) (wrapI .u32 (o44.2 - o34))))]⟩ (aC g_0 (aC g_1 (aC g_2 aN))) ?_
  show Run Pg 44 _ _ _
  refine qE [] 1400 ⟨[(1, .d t83 x1), (5, .vec 202 t127), (6, .d t127 o44.1), (13, .d t83 x3), (14, .d t2 x4), (15, .d t2 (wrapI .i64 (x5 + (1 : Int))))], [(202, .vec 127 t127 (List.set x6 (toN x5) (wrapI .u32 (o44.2 - o34))))]⟩ aN ?_
  exact ⟨m, Nat.lt_succ_self m, _, _, _, rfl, h⟩
 ·replace h := bif_f h hb
  refine qK ⟨[(5, .vec 202 t127)], [(202, .vec 127 t127 x6)]⟩ ?_
  refine Run.ex 0 ?_
  obtain rfl := sI h
  exact ⟨rfl, by kernel_rfl⟩

def F142 (a0 : List Int) (a1 : List Int) : Option ((List Int)) :=
 gd (0 ≤ (ofN (List.length a0))) <|
 gd ((ofN (List.length a0)) ≤ (ofN (List.length a0))) <|
 gd ((ofN (List.length a0)) ≤ 1073741824) <|
 ((f142_l0 a1 a0 (ofN (List.length a0)) (2 + List.length a1 + List.length a0 + List.length (List.replicate (toN (ofN (List.length a0))) (0 : Int))) ((0 : Int), (0 : Int), (List.replicate (toN (ofN (List.length a0))) (0 : Int)))).bind fun o45 =>
 some o45)

theorem c142 {a0 : List Int} {a1 : List Int} {r : (List Int)} (h : F142 a0 a1 = some r) : CallPure Pg 142 [(.d t83 a0), (.d t83 a1)] (.d t83 r) := by
 refine qC c_142 44 [.tmp 4] [83] Go.Proofs.Tryz.func142 ?_
 show Run Pg 44 c_142 ⟨[(0, .d t83 a0), (1, .d t83 a1)], []⟩ (fin142 r)
 unfold F142 at h
 refine qN [] 100 ⟨[(0, .d t83 a0), (1, .d t83 a1)], []⟩ aN ?_
 obtain ⟨g_0, h⟩ := gd_elim h
 obtain ⟨g_1, h⟩ := gd_elim h
 obtain ⟨g_2, h⟩ := gd_elim h
 refine qN [] 200 ⟨[(0, .d t83 a0), (1, .d t83 a1), (5, .vec 202 t127)], [(202, .vec 127 t127 (List.replicate (toN (ofN (List.length a0))) (0 : Int)))]⟩ (aC g_0 (aC g_1 (aC g_2 aN))) ?_
 refine qN [] 300 ⟨[(0, .d t83 a0), (1, .d t83 a1), (5, .vec 202 t127), (6, .d t127 (0 : Int))], [(202, .vec 127 t127 (List.replicate (toN (ofN (List.length a0))) (0 : Int)))]⟩ aN ?_
 refine Run.sq ?_
 refine qN [] 400 ⟨[(1, .d t83 a1), (5, .vec 202 t127), (6, .d t127 (0 : Int)), (13, .d t83 a0), (14, .d t2 (ofN (List.length a0))), (15, .d t2 (0 : Int))], [(202, .vec 127 t127 (List.replicate (toN (ofN (List.length a0))) (0 : Int)))]⟩ aN ?_
 refine Run.bl 0 ?_
 obtain ⟨o45, h_o45, h⟩ := bnd_elim h
 refine Run.mono (f142_l0_ok a1 a0 (ofN (List.length a0)) _ (0 : Int) (0 : Int) (List.replicate (toN (ofN (List.length a0))) (0 : Int)) h_o45) ?_
 rintro _ _ ⟨rfl, rfl⟩
 show Run Pg 44 _ _ _
 refine qN [] 1500 ⟨[(4, .vec 202 t127)], [(202, .vec 127 t127 o45)]⟩ aN ?_
 refine Run.freeze (s' := ⟨[(4, .d t83 o45)], []⟩) 202 (by kernel_rfl) ?_
 refine Run.rt ?_
 obtain rfl := sI h
 exact qR [(.d t83 o45)]

/-! ## f132 -/

noncomputable def c_132 : Code := body0 Go.Proofs.Tryz.f132

def fin132 (r : IntL) : Ex → St → Prop := endK X0 [.cell 4 85] [85] (.d t84 r)

def f132_c0_post (x4 : Bool) (x5 : IntL) (x6 : IntL) (x7 : IntL) : RatL → Ex → St → Prop
 | o, x, s => x = .nrm ∧ s = ⟨[(2, .ptr 100 0), (3, .ptr 101 0), (4, .ptr 102 0)], [(100, bx t84 o.1), (101, bx t84 o.2), (102, bx t84 x7)]⟩

def f132_c0 (x4 : Bool) (x5 : IntL) (x6 : IntL) : Option RatL :=
 (bif x4 then
 some (x6, x5)
 else
 some (x5, x6))

theorem f132_c0_ok (x4 : Bool) (x5 : IntL) (x6 : IntL) (x7 : IntL) {out : RatL} (h : f132_c0 x4 x5 x6 = some out) : Run Pg 34 (sq2 (sq1 (sq2 (sq2 c_132)))) ⟨[(2, .ptr 100 0), (3, .ptr 101 0), (4, .ptr 102 0), (23, .d t4 x4)], [(100, bx t84 x5), (101, bx t84 x6), (102, bx t84 x7)]⟩ (f132_c0_post x4 x5 x6 x7 out) := by
 unfold f132_c0 at h
 refine Run.cd x4 (fun hb => ?_) (fun hb => ?_)
 ·replace h := bif_t h hb
  refine qE [] 500 ⟨[(2, .ptr 100 0), (3, .ptr 101 0), (4, .ptr 102 0)], [(100, bx t84 x6), (101, bx t84 x5), (102, bx t84 x7)]⟩ aN ?_
  obtain rfl := sI h
  exact ⟨rfl, by kernel_rfl⟩
 ·replace h := bif_f h hb
  refine qK ⟨[(2, .ptr 100 0), (3, .ptr 101 0), (4, .ptr 102 0)], [(100, bx t84 x5), (101, bx t84 x6), (102, bx t84 x7)]⟩ ?_
  refine Run.sk ?_
  obtain rfl := sI h
  exact ⟨rfl, by kernel_rfl⟩

def F132 (a0 : IntL) (a1 : IntL) : Option (IntL) :=
 (bif (a0.1 == a1.1) then
 (F141 a0.2 a1.2).bind fun y1 =>
 (F89 a0.1 y1).bind fun y2 =>
 some y2
 else
 (F97 a0.2 a1.2).bind fun y3 =>
 ((f132_c0 (decide (y3 < (0 : Int))) a0 a1).bind fun o8 =>
 (F142 o8.1.2 o8.2.2).bind fun y9 =>
 (F89 o8.1.1 y9).bind fun y10 =>
 some y10))

theorem c132 {a0 : IntL} {a1 : IntL} {r : IntL} (h : F132 a0 a1 = some r) : CallPure Pg 132 [(.d t84 a0), (.d t84 a1)] (.d t84 r) := by
 refine qC c_132 34 [.cell 4 85] [85] Go.Proofs.Tryz.func132 ?_
 show Run Pg 34 c_132 ⟨[(0, .d t84 a0), (1, .d t84 a1)], []⟩ (fin132 r)
 unfold F132 at h
 refine qN [] 100 ⟨[(2, .ptr 100 0), (3, .ptr 101 0), (4, .ptr 102 0)], [(100, bx t84 a0), (101, bx t84 a1), (102, bx t84 (false, ([] : List Int)))]⟩ aN ?_
 refine Run.sq ?_
 refine qN [] 200 ⟨[(2, .ptr 100 0), (3, .ptr 101 0), (4, .ptr 102 0), (9, .d t4 (a0.1 == a1.1))], [(100, bx t84 a0), (101, bx t84 a1), (102, bx t84 (false, ([] : List Int)))]⟩ aN ?_
 refine Run.cd (a0.1 == a1.1) (fun hb => ?_) (fun hb => ?_)
 ·replace h := bif_t h hb
  obtain ⟨y1, h_y1, h⟩ := bnd_elim h
  obtain ⟨y2, h_y2, h⟩ := bnd_elim h
  refine qN [(6, .call (.d t83 y1)), (7, .call (.d t84 y2))] 300 ⟨[(4, .ptr 102 0)], [(102, bx t84 y2)]⟩ (aC (c141 h_y1) (aC (c89 h_y2) aN)) ?_
  refine Run.rt ?_
  obtain rfl := sI h
  exact qR [(.d t84 y2)]
 ·replace h := bif_f h hb
  refine Run.sk ?_
  show Run Pg 34 _ _ _
  refine Run.sq ?_
  obtain ⟨y3, h_y3, h⟩ := bnd_elim h
  refine qN [(4, .call (.d t2 y3))] 400 ⟨[(2, .ptr 100 0), (3, .ptr 101 0), (4, .ptr 102 0), (23, .d t4 (decide (y3 < (0 : Int))))], [(100, bx t84 a0), (101, bx t84 a1), (102, bx t84 (false, ([] : List Int)))]⟩ (aC (c97 h_y3) aN) ?_
  obtain ⟨o8, h_o8, h⟩ := bnd_elim h
  refine Run.mono (f132_c0_ok (decide (y3 < (0 : Int))) a0 a1 (false, ([] : List Int)) h_o8) ?_
  rintro _ _ ⟨rfl, rfl⟩
  show Run Pg 34 _ _ _
  obtain ⟨y9, h_y9, h⟩ := bnd_elim h
  obtain ⟨y10, h_y10, h⟩ := bnd_elim h
  refine qN [(6, .call (.d t83 y9)), (7, .call (.d t84 y10))] 600 ⟨[(4, .ptr 102 0)], [(102, bx t84 y10)]⟩ (aC (c142 h_y9) (aC (c89 h_y10) aN)) ?_
  refine Run.rt ?_
  obtain rfl := sI h
  exact qR [(.d t84 y10)]

/-! ## f131 -/

noncomputable def c_131 : Code := body0 Go.Proofs.Tryz.f131

def fin131 (r : IntL) : Ex → St → Prop := endK X0 [.cell 4 85] [85] (.d t84 r)

def F131 (a0 : IntL) (a1 : IntL) : Option (IntL) :=
 (bif (!a1.1) then
 (F132 a0 ((decide ((0 : Int) < (ofN (List.length a1.2)))), a1.2)).bind fun y1 =>
 some y1
 else
 (F132 a0 (false, a1.2)).bind fun y2 =>
 some y2)

theorem c131 {a0 : IntL} {a1 : IntL} {r : IntL} (h : F131 a0 a1 = some r) : CallPure Pg 131 [(.d t84 a0), (.d t84 a1)] (.d t84 r) := by
 refine qC c_131 18 [.cell 4 85] [85] Go.Proofs.Tryz.func131 ?_
 show Run Pg 18 c_131 ⟨[(0, .d t84 a0), (1, .d t84 a1)], []⟩ (fin131 r)
 unfold F131 at h
 refine qN [] 100 ⟨[(2, .ptr 100 0), (3, .ptr 101 0), (4, .ptr 102 0)], [(100, bx t84 a0), (101, bx t84 a1), (102, bx t84 (false, ([] : List Int)))]⟩ aN ?_
 rcases bif_elim h with ⟨hb0, h⟩ | ⟨hb0, h⟩
 ·refine qN [(3, .b true)] 200 ⟨[(2, .ptr 100 0), (3, .ptr 101 0), (4, .ptr 102 0)], [(100, bx t84 a0), (101, bx t84 ((decide ((0 : Int) < (ofN (List.length a1.2)))), a1.2)), (102, bx t84 (false, ([] : List Int)))]⟩ (aC hb0 aN) ?_
  obtain ⟨y1, h_y1, h⟩ := bnd_elim h
  refine qN [(2, .call (.d t84 y1))] 300 ⟨[(4, .ptr 102 0)], [(102, bx t84 y1)]⟩ (aC (c132 h_y1) aN) ?_
  refine Run.rt ?_
  obtain rfl := sI h
  exact qR [(.d t84 y1)]
 ·refine qN [(3, .b false)] 200 ⟨[(2, .ptr 100 0), (3, .ptr 101 0), (4, .ptr 102 0)], [(100, bx t84 a0), (101, bx t84 (false, a1.2)), (102, bx t84 (false, ([] : List Int)))]⟩ (aC hb0 aN) ?_
  obtain ⟨y2, h_y2, h⟩ := bnd_elim h
  refine qN [(2, .call (.d t84 y2))] 300 ⟨[(4, .ptr 102 0)], [(102, bx t84 y2)]⟩ (aC (c132 h_y2) aN) ?_
  refine Run.rt ?_
  obtain rfl := sI h
  exact qR [(.d t84 y2)]

/-! ## f116 -/

noncomputable def c_116 : Code := body0 Go.Proofs.Tryz.f116

def fin116 (r : IntL × IntL × Int) : Ex → St → Prop := endK X0 [.cell 4 85, .cell 5 85, .tmp 6] [85, 85, 41] (.tup (.vcons (.d t84 r.1) (.vcons (.d t84 r.2.1) (.vcons (.d t2 r.2.2) .vnil))))

def f116_c0_post (x4 : Bool) (x5 : IntL) (x6 : IntL) (x7 : IntL) (x8 : IntL) : RatL → Ex → St → Prop
 | o, x, s => x = .nrm ∧ s = ⟨[(4, .ptr 102 0), (5, .ptr 103 0), (9, .ptr 511 0), (10, .ptr 512 0)], [(102, bx t84 x6), (103, bx t84 x6), (511, bx t84 o.1), (512, bx t84 o.2)]⟩

def f116_c0 (x4 : Bool) (x5 : IntL) (x7 : IntL) (x8 : IntL) : Option RatL :=
 (bif x4 then
 (F73 (1 : Int)).bind fun y12 =>
 (F131 x7 y12).bind fun y13 =>
 (F132 x8 x5).bind fun y14 =>
 some (y13, y14)
 else
 some (x7, x8))

theorem f116_c0_ok (x4 : Bool) (x5 : IntL) (x6 : IntL) (x7 : IntL) (x8 : IntL) {out : RatL} (h : f116_c0 x4 x5 x7 x8 = some out) : Run Pg 55 (sq2 (sq1 (sq2 (sq2 (sq2 (sq2 c_116)))))) ⟨[(3, .ptr 101 0), (4, .ptr 102 0), (5, .ptr 103 0), (9, .ptr 511 0), (10, .ptr 512 0), (46, .d t4 x4)], [(101, bx t84 x5), (102, bx t84 x6), (103, bx t84 x6), (511, bx t84 x7), (512, bx t84 x8)]⟩ (f116_c0_post x4 x5 x6 x7 x8 out) := by
 unfold f116_c0 at h
 refine Run.cd x4 (fun hb => ?_) (fun hb => ?_)
 ·replace h := bif_t h hb
  obtain ⟨y12, h_y12, h⟩ := bnd_elim h
  obtain ⟨y13, h_y13, h⟩ := bnd_elim h
  obtain ⟨y14, h_y14, h⟩ := bnd_elim h
  refine qE [(1, .call (.d t84 y12)), (2, .call (.d t84 y13)), (5, .call (.d t84 y14))] 700 ⟨[(4, .ptr 102 0), (5, .ptr 103 0), (9, .ptr 511 0), (10, .ptr 512 0)], [(102, bx t84 x6), (103, bx t84 x6), (511, bx t84 y13), (512, bx t84 y14)]⟩ (aC (c73 h_y12) (aC (c131 h_y13) (aC (c132 h_y14) aN))) ?_
  obtain rfl := sI h
  exact ⟨rfl, by kernel_rfl⟩
 ·replace h := bif_f h hb
  refine qK ⟨[(4, .ptr 102 0), (5, .ptr 103 0), (9, .ptr 511 0), (10, .ptr 512 0)], [(102, bx t84 x6), (103, bx t84 x6), (511, bx t84 x7), (512, bx t84 x8)]⟩ ?_
  refine Run.sk ?_
  obtain rfl := sI h
  exact ⟨rfl, by kernel_rfl⟩

def F116 (a0 : IntL) (a1 : IntL) : Option (IntL × IntL × Int) :=
 (bif ((ofN (List.length a1.2)) == (0 : Int)) then
 some ((false, ([] : List Int)), (false, ([] : List Int)), (6 : Int))
 else
 (F115 a0.2 a1.2).bind fun y1 =>
 (F89 (!(a0.1 == a1.1)) y1.1).bind fun y2 =>
 (F89 a0.1 y1.2).bind fun y3 =>
 (bif (decide ((0 : Int) < (ofN (List.length y3.2)))) then
 ((f116_c0 (!(y3.1 == a1.1)) a1 y2 y3).bind fun o15 =>
 some (o15.1, o15.2, (0 : Int)))
 else
 some (y2, y3, (0 : Int))))

theorem c116 {a0 : IntL} {a1 : IntL} {r : IntL × IntL × Int} (h : F116 a0 a1 = some r) : CallPure Pg 116 [(.d t84 a0), (.d t84 a1)] (.tup (.vcons (.d t84 r.1) (.vcons (.d t84 r.2.1) (.vcons (.d t2 r.2.2) .vnil)))) := by
 refine qC c_116 55 [.cell 4 85, .cell 5 85, .tmp 6] [85, 85, 41] Go.Proofs.Tryz.func116 ?_
 show Run Pg 55 c_116 ⟨[(0, .d t84 a0), (1, .d t84 a1)], []⟩ (fin116 r)
 unfold F116 at h
 refine qN [] 100 ⟨[(2, .ptr 100 0), (3, .ptr 101 0), (4, .ptr 102 0), (5, .ptr 103 0)], [(100, bx t84 a0), (101, bx t84 a1), (102, bx t84 (false, ([] : List Int))), (103, bx t84 (false, ([] : List Int)))]⟩ aN ?_
 refine Run.sq ?_
 refine qN [] 200 ⟨[(2, .ptr 100 0), (3, .ptr 101 0), (4, .ptr 102 0), (5, .ptr 103 0), (14, .d t4 ((ofN (List.length a1.2)) == (0 : Int)))], [(100, bx t84 a0), (101, bx t84 a1), (102, bx t84 (false, ([] : List Int))), (103, bx t84 (false, ([] : List Int)))]⟩ aN ?_
 refine Run.cd ((ofN (List.length a1.2)) == (0 : Int)) (fun hb => ?_) (fun hb => ?_)
 ·replace h := bif_t h hb
  refine qN [] 300 ⟨[(4, .ptr 102 0), (5, .ptr 103 0), (6, .d t2 (6 : Int))], [(102, bx t84 (false, ([] : List Int))), (103, bx t84 (false, ([] : List Int)))]⟩ aN ?_
  refine Run.rt ?_
  obtain rfl := sI h
  exact qR [(.d t84 (false, ([] : List Int))), (.d t84 (false, ([] : List Int))), (.d t2 (6 : Int))]
 ·replace h := bif_f h hb
  refine Run.sk ?_
  show Run Pg 55 _ _ _
  obtain ⟨y1, h_y1, h⟩ := bnd_elim h
  refine qN [(4, .call (.tup (.vcons (.d t83 y1.1) (.vcons (.d t83 y1.2) .vnil))))] 400 ⟨[(2, .ptr 100 0), (3, .ptr 101 0), (4, .ptr 102 0), (5, .ptr 103 0), (7, .d t83 y1.1), (8, .d t83 y1.2)], [(100, bx t84 a0), (101, bx t84 a1), (102, bx t84 (false, ([] : List Int))), (103, bx t84 (false, ([] : List Int)))]⟩ (aC (c115 h_y1) aN) ?_
  obtain ⟨y2, h_y2, h⟩ := bnd_elim h
  obtain ⟨y3, h_y3, h⟩ := bnd_elim h
  refine qN [(6, .call (.d t84 y2)), (10, .call (.d t84 y3))] 500 ⟨[(3, .ptr 101 0), (4, .ptr 102 0), (5, .ptr 103 0), (9, .ptr 511 0), (10, .ptr 512 0)], [(101, bx t84 a1), (102, bx t84 (false, ([] : List Int))), (103, bx t84 (false, ([] : List Int))), (511, bx t84 y2), (512, bx t84 y3)]⟩ (aC (c89 h_y2) (aC (c89 h_y3) aN)) ?_
  refine Run.sq ?_
  rcases bif_elim h with ⟨hb0, h⟩ | ⟨hb0, h⟩
  ·refine qN [(4, .b true)] 600 ⟨[(3, .ptr 101 0), (4, .ptr 102 0), (5, .ptr 103 0), (9, .ptr 511 0), (10, .ptr 512 0), (46, .d t4 (!(y3.1 == a1.1)))], [(101, bx t84 a1), (102, bx t84 (false, ([] : List Int))), (103, bx t84 (false, ([] : List Int))), (511, bx t84 y2), (512, bx t84 y3)]⟩ (aC hb0 aN) ?_
   obtain ⟨o15, h_o15, h⟩ := bnd_elim h
   refine Run.mono (f116_c0_ok (!(y3.1 == a1.1)) a1 (false, ([] : List Int)) y2 y3 h_o15) ?_
   rintro _ _ ⟨rfl, rfl⟩
   show Run Pg 55 _ _ _
   refine qN [] 800 ⟨[(4, .ptr 102 0), (5, .ptr 103 0), (6, .d t2 (0 : Int))], [(102, bx t84 o15.1), (103, bx t84 o15.2)]⟩ aN ?_
   refine Run.rt ?_
   obtain rfl := sI h
   exact qR [(.d t84 o15.1), (.d t84 o15.2), (.d t2 (0 : Int))]
  ·refine qN [(4, .b false)] 600 ⟨[(3, .ptr 101 0), (4, .ptr 102 0), (5, .ptr 103 0), (9, .ptr 511 0), (10, .ptr 512 0), (46, .d t4 false)], [(101, bx t84 a1), (102, bx t84 (false, ([] : List Int))), (103, bx t84 (false, ([] : List Int))), (511, bx t84 y2), (512, bx t84 y3)]⟩ (aC hb0 aN) ?_
   refine Run.cd false (fun hb => (by cases hb)) (fun hb => ?_)
   refine Run.sk ?_
   show Run Pg 55 _ _ _
   refine qN [] 800 ⟨[(4, .ptr 102 0), (5, .ptr 103 0), (6, .d t2 (0 : Int))], [(102, bx t84 y2), (103, bx t84 y3)]⟩ aN ?_
   refine Run.rt ?_
   obtain rfl := sI h
   exact qR [(.d t84 y2), (.d t84 y3), (.d t2 (0 : Int))]

/-! ## f94 -/

noncomputable def c_94 : Code := body0 Go.Proofs.Tryz.f94

def fin94 (r : IntL) : Ex → St → Prop := endK X0 [.cell 4 85] [85] (.d t84 r)

def F94 (a0 : IntL) (a1 : IntL) : Option (IntL) :=
 (F116 a0 a1).bind fun y1 =>
 some y1.1

theorem c94 {a0 : IntL} {a1 : IntL} {r : IntL} (h : F94 a0 a1 = some r) : CallPure Pg 94 [(.d t84 a0), (.d t84 a1)] (.d t84 r) := by
 refine qC c_94 16 [.cell 4 85] [85] Go.Proofs.Tryz.func94 ?_
 show Run Pg 16 c_94 ⟨[(0, .d t84 a0), (1, .d t84 a1)], []⟩ (fin94 r)
 unfold F94 at h
 refine qN [] 100 ⟨[(2, .ptr 100 0), (3, .ptr 101 0), (4, .ptr 102 0)], [(100, bx t84 a0), (101, bx t84 a1), (102, bx t84 (false, ([] : List Int)))]⟩ aN ?_
 obtain ⟨y1, h_y1, h⟩ := bnd_elim h
 refine qN [(2, .call (.tup (.vcons (.d t84 y1.1) (.vcons (.d t84 y1.2.1) (.vcons (.d t2 y1.2.2) .vnil)))))] 200 ⟨[(4, .ptr 102 0), (5, .ptr 207 0)], [(102, bx t84 (false, ([] : List Int))), (207, bx t84 y1.1)]⟩ (aC (c116 h_y1) aN) ?_
 refine qN [] 300 ⟨[(4, .ptr 102 0)], [(102, bx t84 y1.1)]⟩ aN ?_
 refine Run.rt ?_
 obtain rfl := sI h
 exact qR [(.d t84 y1.1)]

/-! ## f74 -/

noncomputable def c_74 : Code := body0 Go.Proofs.Tryz.f74

def fin74 (r : RatL) : Ex → St → Prop := endK X0 [.cell 4 87] [87] (.d t86 r)

def f74_c0_post (x2 : Bool) (x3 : IntL) (x4 : IntL) (x5 : RatL) : RatL → Ex → St → Prop
 | o, x, s => x = .nrm ∧ s = ⟨[(2, .ptr 100 0), (3, .ptr 101 0), (4, .ptr 102 0)], [(100, bx t84 o.1), (101, bx t84 o.2), (102, bx t86 x5)]⟩

def f74_c0 (x2 : Bool) (x3 : IntL) (x4 : IntL) : Option RatL :=
 (bif x2 then
 (F92 x3).bind fun y8 =>
 (F92 x4).bind fun y9 =>
 some (y8, y9)
 else
 some (x3, x4))

theorem f74_c0_ok (x2 : Bool) (x3 : IntL) (x4 : IntL) (x5 : RatL) {out : RatL} (h : f74_c0 x2 x3 x4 = some out) : Run Pg 29 (sq2 (sq1 (sq2 c_74))) ⟨[(2, .ptr 100 0), (3, .ptr 101 0), (4, .ptr 102 0), (8, .d t4 x2)], [(100, bx t84 x3), (101, bx t84 x4), (102, bx t86 x5)]⟩ (f74_c0_post x2 x3 x4 x5 out) := by
 unfold f74_c0 at h
 refine Run.cd x2 (fun hb => ?_) (fun hb => ?_)
 ·replace h := bif_t h hb
  obtain ⟨y8, h_y8, h⟩ := bnd_elim h
  obtain ⟨y9, h_y9, h⟩ := bnd_elim h
  refine qE [(1, .call (.d t84 y8)), (3, .call (.d t84 y9))] 300 ⟨[(2, .ptr 100 0), (3, .ptr 101 0), (4, .ptr 102 0)], [(100, bx t84 y8), (101, bx t84 y9), (102, bx t86 x5)]⟩ (aC (c92 h_y8) (aC (c92 h_y9) aN)) ?_
  obtain rfl := sI h
  exact ⟨rfl, by kernel_rfl⟩
 ·replace h := bif_f h hb
  refine qK ⟨[(2, .ptr 100 0), (3, .ptr 101 0), (4, .ptr 102 0)], [(100, bx t84 x3), (101, bx t84 x4), (102, bx t86 x5)]⟩ ?_
  refine Run.sk ?_
  obtain rfl := sI h
  exact ⟨rfl, by kernel_rfl⟩

def f74_c1_post (x14 : Bool) (x15 : IntL) (x16 : IntL) (x17 : RatL) (x18 : IntL) : RatL → Ex → St → Prop
 | o, x, s => x = .nrm ∧ s = ⟨[(2, .ptr 100 0), (3, .ptr 101 0), (4, .ptr 102 0)], [(100, bx t84 o.1), (101, bx t84 o.2), (102, bx t86 x17)]⟩

def f74_c1 (x14 : Bool) (x15 : IntL) (x16 : IntL) (x18 : IntL) : Option RatL :=
 (bif x14 then
 (F94 x15 x18).bind fun y21 =>
 (F94 x16 x18).bind fun y22 =>
 some (y21, y22)
 else
 some (x15, x16))

theorem f74_c1_ok (x14 : Bool) (x15 : IntL) (x16 : IntL) (x17 : RatL) (x18 : IntL) {out : RatL} (h : f74_c1 x14 x15 x16 x18 = some out) : Run Pg 29 (sq2 (sq2 (sq1 (sq2 (sq2 c_74))))) ⟨[(2, .ptr 100 0), (3, .ptr 101 0), (4, .ptr 102 0), (5, .ptr 403 0), (19, .d t4 x14)], [(100, bx t84 x15), (101, bx t84 x16), (102, bx t86 x17), (403, bx t84 x18)]⟩ (f74_c1_post x14 x15 x16 x17 x18 out) := by
 unfold f74_c1 at h
 refine Run.cd x14 (fun hb => ?_) (fun hb => ?_)
 ·replace h := bif_t h hb
  obtain ⟨y21, h_y21, h⟩ := bnd_elim h
  obtain ⟨y22, h_y22, h⟩ := bnd_elim h
  refine qE [(2, .call (.d t84 y21)), (5, .call (.d t84 y22))] 600 ⟨[(2, .ptr 100 0), (3, .ptr 101 0), (4, .ptr 102 0)], [(100, bx t84 y21), (101, bx t84 y22), (102, bx t86 x17)]⟩ (aC (c94 h_y21) (aC (c94 h_y22) aN)) ?_
  obtain rfl := sI h
  exact ⟨rfl, by kernel_rfl⟩
 ·replace h := bif_f h hb
  refine qK ⟨[(2, .ptr 100 0), (3, .ptr 101 0), (4, .ptr 102 0)], [(100, bx t84 x15), (101, bx t84 x16), (102, bx t86 x17)]⟩ ?_
  refine Run.sk ?_
  obtain rfl := sI h
  exact ⟨rfl, by kernel_rfl⟩

def F74 (a0 : IntL) (a1 : IntL) : Option RatL :=
 (F91 a1).bind fun y1 =>
 ((f74_c0 (decide (y1 < (0 : Int))) a0 a1).bind fun o10 =>
 (F93 o10.1 o10.2).bind fun y11 =>
 (F88 ).bind fun y12 =>
 (F78 y11 y12).bind fun y13 =>
 ((f74_c1 (y13 != (0 : Int)) o10.1 o10.2 y11).bind fun o23 =>
 some (o23.1, o23.2)))

theorem c74 {a0 : IntL} {a1 : IntL} {r : RatL} (h : F74 a0 a1 = some r) : CallPure Pg 74 [(.d t84 a0), (.d t84 a1)] (.d t86 r) := by
 refine qC c_74 29 [.cell 4 87] [87] Go.Proofs.Tryz.func74 ?_
 show Run Pg 29 c_74 ⟨[(0, .d t84 a0), (1, .d t84 a1)], []⟩ (fin74 r)
 unfold F74 at h
 refine qN [] 100 ⟨[(2, .ptr 100 0), (3, .ptr 101 0), (4, .ptr 102 0)], [(100, bx t84 a0), (101, bx t84 a1), (102, bx t86 ((false, ([] : List Int)), (false, ([] : List Int))))]⟩ aN ?_
 refine Run.sq ?_
 obtain ⟨y1, h_y1, h⟩ := bnd_elim h
 refine qN [(1, .call (.d t2 y1))] 200 ⟨[(2, .ptr 100 0), (3, .ptr 101 0), (4, .ptr 102 0), (8, .d t4 (decide (y1 < (0 : Int))))], [(100, bx t84 a0), (101, bx t84 a1), (102, bx t86 ((false, ([] : List Int)), (false, ([] : List Int))))]⟩ (aC (c91 h_y1) aN) ?_
 obtain ⟨o10, h_o10, h⟩ := bnd_elim h
 refine Run.mono (f74_c0_ok (decide (y1 < (0 : Int))) a0 a1 ((false, ([] : List Int)), (false, ([] : List Int))) h_o10) ?_
 rintro _ _ ⟨rfl, rfl⟩
 show Run Pg 29 _ _ _
 refine Run.sq ?_
 obtain ⟨y11, h_y11, h⟩ := bnd_elim h
 refine qN [(2, .call (.d t84 y11))] 400 ⟨[(2, .ptr 100 0), (3, .ptr 101 0), (4, .ptr 102 0), (5, .ptr 403 0)], [(100, bx t84 o10.1), (101, bx t84 o10.2), (102, bx t86 ((false, ([] : List Int)), (false, ([] : List Int)))), (403, bx t84 y11)]⟩ (aC (c93 h_y11) aN) ?_
 obtain ⟨y12, h_y12, h⟩ := bnd_elim h
 obtain ⟨y13, h_y13, h⟩ := bnd_elim h
 refine qN [(1, .call (.d t84 y12)), (2, .call (.d t2 y13))] 500 ⟨[(2, .ptr 100 0), (3, .ptr 101 0), (4, .ptr 102 0), (5, .ptr 403 0), (19, .d t4 (y13 != (0 : Int)))], [(100, bx t84 o10.1), (101, bx t84 o10.2), (102, bx t86 ((false, ([] : List Int)), (false, ([] : List Int)))), (403, bx t84 y11)]⟩ (aC (c88 h_y12) (aC (c78 h_y13) aN)) ?_
 obtain ⟨o23, h_o23, h⟩ := bnd_elim h
 refine Run.mono (f74_c1_ok (y13 != (0 : Int)) o10.1 o10.2 ((false, ([] : List Int)), (false, ([] : List Int))) y11 h_o23) ?_
 rintro _ _ ⟨rfl, rfl⟩
 show Run Pg 29 _ _ _
 refine qN [] 700 ⟨[(4, .ptr 102 0)], [(102, bx t86 (o23.1, o23.2))]⟩ aN ?_
 refine Run.rt ?_
 obtain rfl := sI h
 exact qR [(.d t86 (o23.1, o23.2))]

/-! ## f60 -/

noncomputable def c_60 : Code := body0 Go.Proofs.Tryz.f60

def fin60 (r : RatL) : Ex → St → Prop := endK X0 [.cell 4 87] [87] (.d t86 r)

def F60 (a0 : RatL) (a1 : RatL) : Option RatL :=
 (F75 a0.1 a1.1).bind fun y1 =>
 (F75 a0.2 a1.2).bind fun y2 =>
 (F74 y1 y2).bind fun y3 =>
 some y3

theorem c60 {a0 : RatL} {a1 : RatL} {r : RatL} (h : F60 a0 a1 = some r) : CallPure Pg 60 [(.d t86 a0), (.d t86 a1)] (.d t86 r) := by
 refine qC c_60 16 [.cell 4 87] [87] Go.Proofs.Tryz.func60 ?_
 show Run Pg 16 c_60 ⟨[(0, .d t86 a0), (1, .d t86 a1)], []⟩ (fin60 r)
 unfold F60 at h
 refine qN [] 100 ⟨[(2, .ptr 100 0), (3, .ptr 101 0), (4, .ptr 102 0)], [(100, bx t86 a0), (101, bx t86 a1), (102, bx t86 ((false, ([] : List Int)), (false, ([] : List Int))))]⟩ aN ?_
 obtain ⟨y1, h_y1, h⟩ := bnd_elim h
 obtain ⟨y2, h_y2, h⟩ := bnd_elim h
 obtain ⟨y3, h_y3, h⟩ := bnd_elim h
 refine qN [(4, .call (.d t84 y1)), (9, .call (.d t84 y2)), (10, .call (.d t86 y3))] 200 ⟨[(4, .ptr 102 0)], [(102, bx t86 y3)]⟩ (aC (c75 h_y1) (aC (c75 h_y2) (aC (c74 h_y3) aN))) ?_
 refine Run.rt ?_
 obtain rfl := sI h
 exact qR [(.d t86 y3)]

/-! ## f61 -/

noncomputable def c_61 : Code := body0 Go.Proofs.Tryz.f61

def fin61 (r : (RatL × RatL)) : Ex → St → Prop := endK X0 [.cell 4 102] [102] (.d t101 r)

def F61 (a0 : Int) (a1 : Int) : Option ((RatL × RatL)) :=
 (F59 a0).bind fun y1 =>
 (F59 a1).bind fun y2 =>
 some (y1, y2)

theorem c61 {a0 : Int} {a1 : Int} {r : (RatL × RatL)} (h : F61 a0 a1 = some r) : CallPure Pg 61 [(.d t2 a0), (.d t2 a1)] (.d t101 r) := by
 refine qC c_61 10 [.cell 4 102] [102] Go.Proofs.Tryz.func61 ?_
 show Run Pg 10 c_61 ⟨[(0, .d t2 a0), (1, .d t2 a1)], []⟩ (fin61 r)
 unfold F61 at h
 refine qN [] 100 ⟨[(0, .d t2 a0), (1, .d t2 a1), (4, .ptr 100 0)], [(100, bx t101 (((false, ([] : List Int)), (false, ([] : List Int))), ((false, ([] : List Int)), (false, ([] : List Int)))))]⟩ aN ?_
 obtain ⟨y1, h_y1, h⟩ := bnd_elim h
 obtain ⟨y2, h_y2, h⟩ := bnd_elim h
 refine qN [(1, .call (.d t86 y1)), (3, .call (.d t86 y2))] 200 ⟨[(4, .ptr 100 0)], [(100, bx t101 (y1, y2))]⟩ (aC (c59 h_y1) (aC (c59 h_y2) aN)) ?_
 refine Run.rt ?_
 obtain rfl := sI h
 exact qR [(.d t101 (y1, y2))]

/-! ## f143 -/

noncomputable def c_143 : Code := body0 Go.Proofs.Tryz.f143

def fin143 (r : RatL) : Ex → St → Prop := endK X0 [.cell 2 87] [87] (.d t86 r)

def F143 (a0 : RatL) : Option RatL :=
 (F92 a0.1).bind fun y1 =>
 some (y1, a0.2)

theorem c143 {a0 : RatL} {r : RatL} (h : F143 a0 = some r) : CallPure Pg 143 [(.d t86 a0)] (.d t86 r) := by
 refine qC c_143 9 [.cell 2 87] [87] Go.Proofs.Tryz.func143 ?_
 show Run Pg 9 c_143 ⟨[(0, .d t86 a0)], []⟩ (fin143 r)
 unfold F143 at h
 refine qN [] 100 ⟨[(1, .ptr 100 0), (2, .ptr 101 0)], [(100, bx t86 a0), (101, bx t86 ((false, ([] : List Int)), (false, ([] : List Int))))]⟩ aN ?_
 obtain ⟨y1, h_y1, h⟩ := bnd_elim h
 refine qN [(2, .call (.d t84 y1))] 200 ⟨[(2, .ptr 101 0)], [(101, bx t86 (y1, a0.2))]⟩ (aC (c92 h_y1) aN) ?_
 refine Run.rt ?_
 obtain rfl := sI h
 exact qR [(.d t86 (y1, a0.2))]

/-! ## f134 -/

noncomputable def c_134 : Code := body0 Go.Proofs.Tryz.f134

def fin134 (r : RatL) : Ex → St → Prop := endK X0 [.cell 4 87] [87] (.d t86 r)

def F134 (a0 : RatL) (a1 : RatL) : Option RatL :=
 (F78 a0.2 a1.2).bind fun y1 =>
 (bif (y1 == (0 : Int)) then
 (F132 a0.1 a1.1).bind fun y2 =>
 (F74 y2 a0.2).bind fun y3 =>
 some y3
 else
 (F75 a0.1 a1.2).bind fun y4 =>
 (F75 a1.1 a0.2).bind fun y5 =>
 (F132 y4 y5).bind fun y6 =>
 (F75 a0.2 a1.2).bind fun y7 =>
 (F74 y6 y7).bind fun y8 =>
 some y8)

theorem c134 {a0 : RatL} {a1 : RatL} {r : RatL} (h : F134 a0 a1 = some r) : CallPure Pg 134 [(.d t86 a0), (.d t86 a1)] (.d t86 r) := by
 refine qC c_134 36 [.cell 4 87] [87] Go.Proofs.Tryz.func134 ?_
 show Run Pg 36 c_134 ⟨[(0, .d t86 a0), (1, .d t86 a1)], []⟩ (fin134 r)
 unfold F134 at h
 refine qN [] 100 ⟨[(2, .ptr 100 0), (3, .ptr 101 0), (4, .ptr 102 0)], [(100, bx t86 a0), (101, bx t86 a1), (102, bx t86 ((false, ([] : List Int)), (false, ([] : List Int))))]⟩ aN ?_
 refine Run.sq ?_
 obtain ⟨y1, h_y1, h⟩ := bnd_elim h
 refine qN [(4, .call (.d t2 y1))] 200 ⟨[(2, .ptr 100 0), (3, .ptr 101 0), (4, .ptr 102 0), (10, .d t4 (y1 == (0 : Int)))], [(100, bx t86 a0), (101, bx t86 a1), (102, bx t86 ((false, ([] : List Int)), (false, ([] : List Int))))]⟩ (aC (c78 h_y1) aN) ?_
 refine Run.cd (y1 == (0 : Int)) (fun hb => ?_) (fun hb => ?_)
 ·replace h := bif_t h hb
  obtain ⟨y2, h_y2, h⟩ := bnd_elim h
  obtain ⟨y3, h_y3, h⟩ := bnd_elim h
  refine qN [(4, .call (.d t84 y2)), (7, .call (.d t86 y3))] 300 ⟨[(4, .ptr 102 0)], [(102, bx t86 y3)]⟩ (aC (c132 h_y2) (aC (c74 h_y3) aN)) ?_
  refine Run.rt ?_
  obtain rfl := sI h
  exact qR [(.d t86 y3)]
 ·replace h := bif_f h hb
  refine Run.sk ?_
  show Run Pg 36 _ _ _
  obtain ⟨y4, h_y4, h⟩ := bnd_elim h
  obtain ⟨y5, h_y5, h⟩ := bnd_elim h
  obtain ⟨y6, h_y6, h⟩ := bnd_elim h
  obtain ⟨y7, h_y7, h⟩ := bnd_elim h
  obtain ⟨y8, h_y8, h⟩ := bnd_elim h
  refine qN [(4, .call (.d t84 y4)), (9, .call (.d t84 y5)), (10, .call (.d t84 y6)), (15, .call (.d t84 y7)), (16, .call (.d t86 y8))] 400 ⟨[(4, .ptr 102 0)], [(102, bx t86 y8)]⟩ (aC (c75 h_y4) (aC (c75 h_y5) (aC (c132 h_y6) (aC (c75 h_y7) (aC (c74 h_y8) aN))))) ?_
  refine Run.rt ?_
  obtain rfl := sI h
  exact qR [(.d t86 y8)]

/-! ## f133 -/

noncomputable def c_133 : Code := body0 Go.Proofs.Tryz.f133

def fin133 (r : RatL) : Ex → St → Prop := endK X0 [.cell 4 87] [87] (.d t86 r)

def F133 (a0 : RatL) (a1 : RatL) : Option RatL :=
 (F143 a1).bind fun y1 =>
 (F134 a0 y1).bind fun y2 =>
 some y2

theorem c133 {a0 : RatL} {a1 : RatL} {r : RatL} (h : F133 a0 a1 = some r) : CallPure Pg 133 [(.d t86 a0), (.d t86 a1)] (.d t86 r) := by
 refine qC c_133 9 [.cell 4 87] [87] Go.Proofs.Tryz.func133 ?_
 show Run Pg 9 c_133 ⟨[(0, .d t86 a0), (1, .d t86 a1)], []⟩ (fin133 r)
 unfold F133 at h
 refine qN [] 100 ⟨[(2, .ptr 100 0), (3, .ptr 101 0), (4, .ptr 102 0)], [(100, bx t86 a0), (101, bx t86 a1), (102, bx t86 ((false, ([] : List Int)), (false, ([] : List Int))))]⟩ aN ?_
 obtain ⟨y1, h_y1, h⟩ := bnd_elim h
 obtain ⟨y2, h_y2, h⟩ := bnd_elim h
 refine qN [(2, .call (.d t86 y1)), (3, .call (.d t86 y2))] 200 ⟨[(4, .ptr 102 0)], [(102, bx t86 y2)]⟩ (aC (c143 h_y1) (aC (c134 h_y2) aN)) ?_
 refine Run.rt ?_
 obtain rfl := sI h
 exact qR [(.d t86 y2)]

/-! ## f118 -/

noncomputable def c_118 : Code := body0 Go.Proofs.Tryz.f118

def fin118 (r : RatL) : Ex → St → Prop := endK X0 [.cell 4 87] [87] (.d t86 r)

def F118 (a0 : RatL) (a1 : RatL) : Option RatL :=
 (F133 a0 a1).bind fun y1 =>
 some y1

theorem c118 {a0 : RatL} {a1 : RatL} {r : RatL} (h : F118 a0 a1 = some r) : CallPure Pg 118 [(.d t86 a0), (.d t86 a1)] (.d t86 r) := by
 refine qC c_118 8 [.cell 4 87] [87] Go.Proofs.Tryz.func118 ?_
 show Run Pg 8 c_118 ⟨[(0, .d t86 a0), (1, .d t86 a1)], []⟩ (fin118 r)
 unfold F118 at h
 refine qN [] 100 ⟨[(2, .ptr 100 0), (3, .ptr 101 0), (4, .ptr 102 0)], [(100, bx t86 a0), (101, bx t86 a1), (102, bx t86 ((false, ([] : List Int)), (false, ([] : List Int))))]⟩ aN ?_
 obtain ⟨y1, h_y1, h⟩ := bnd_elim h
 refine qN [(2, .call (.d t86 y1))] 200 ⟨[(4, .ptr 102 0)], [(102, bx t86 y1)]⟩ (aC (c133 h_y1) aN) ?_
 refine Run.rt ?_
 obtain rfl := sI h
 exact qR [(.d t86 y1)]

/-! ## f98 -/

noncomputable def c_98 : Code := body0 Go.Proofs.Tryz.f98

def fin98 (r : (RatL × RatL)) : Ex → St → Prop := endK X0 [.cell 4 102] [102] (.d t101 r)

def F98 (a0 : RatL × RatL) (a1 : RatL × RatL) : Option ((RatL × RatL)) :=
 (F118 a1.1 a0.1).bind fun y1 =>
 (F118 a1.2 a0.2).bind fun y2 =>
 some (y1, y2)

theorem c98 {a0 : RatL × RatL} {a1 : RatL × RatL} {r : (RatL × RatL)} (h : F98 a0 a1 = some r) : CallPure Pg 98 [(.d t101 a0), (.d t101 a1)] (.d t101 r) := by
 refine qC c_98 16 [.cell 4 102] [102] Go.Proofs.Tryz.func98 ?_
 show Run Pg 16 c_98 ⟨[(0, .d t101 a0), (1, .d t101 a1)], []⟩ (fin98 r)
 unfold F98 at h
 refine qN [] 100 ⟨[(2, .ptr 100 0), (3, .ptr 101 0), (4, .ptr 102 0)], [(100, bx t101 a0), (101, bx t101 a1), (102, bx t101 (((false, ([] : List Int)), (false, ([] : List Int))), ((false, ([] : List Int)), (false, ([] : List Int)))))]⟩ aN ?_
 obtain ⟨y1, h_y1, h⟩ := bnd_elim h
 obtain ⟨y2, h_y2, h⟩ := bnd_elim h
 refine qN [(4, .call (.d t86 y1)), (9, .call (.d t86 y2))] 200 ⟨[(4, .ptr 102 0)], [(102, bx t101 (y1, y2))]⟩ (aC (c118 h_y1) (aC (c118 h_y2) aN)) ?_
 refine Run.rt ?_
 obtain rfl := sI h
 exact qR [(.d t101 (y1, y2))]

/-! ## f102 -/

noncomputable def c_102 : Code := body0 Go.Proofs.Tryz.f102

def fin102 (r : RatL) : Ex → St → Prop := endK X0 [.cell 4 87] [87] (.d t86 r)

def F102 (a0 : RatL) (a1 : RatL) : Option RatL :=
 (F60 a0 a1).bind fun y1 =>
 some y1

theorem c102 {a0 : RatL} {a1 : RatL} {r : RatL} (h : F102 a0 a1 = some r) : CallPure Pg 102 [(.d t86 a0), (.d t86 a1)] (.d t86 r) := by
 refine qC c_102 8 [.cell 4 87] [87] Go.Proofs.Tryz.func102 ?_
 show Run Pg 8 c_102 ⟨[(0, .d t86 a0), (1, .d t86 a1)], []⟩ (fin102 r)
 unfold F102 at h
 refine qN [] 100 ⟨[(2, .ptr 100 0), (3, .ptr 101 0), (4, .ptr 102 0)], [(100, bx t86 a0), (101, bx t86 a1), (102, bx t86 ((false, ([] : List Int)), (false, ([] : List Int))))]⟩ aN ?_
 obtain ⟨y1, h_y1, h⟩ := bnd_elim h
 refine qN [(2, .call (.d t86 y1))] 200 ⟨[(4, .ptr 102 0)], [(102, bx t86 y1)]⟩ (aC (c60 h_y1) aN) ?_
 refine Run.rt ?_
 obtain rfl := sI h
 exact qR [(.d t86 y1)]

/-! ## f99 -/

noncomputable def c_99 : Code := body0 Go.Proofs.Tryz.f99

def fin99 (r : RatL) : Ex → St → Prop := endK X0 [.cell 4 87] [87] (.d t86 r)

def F99 (a0 : RatL × RatL) (a1 : RatL × RatL) : Option RatL :=
 (F102 a0.1 a1.2).bind fun y1 =>
 (F102 a0.2 a1.1).bind fun y2 =>
 (F118 y1 y2).bind fun y3 =>
 some y3

theorem c99 {a0 : RatL × RatL} {a1 : RatL × RatL} {r : RatL} (h : F99 a0 a1 = some r) : CallPure Pg 99 [(.d t101 a0), (.d t101 a1)] (.d t86 r) := by
 refine qC c_99 16 [.cell 4 87] [87] Go.Proofs.Tryz.func99 ?_
 show Run Pg 16 c_99 ⟨[(0, .d t101 a0), (1, .d t101 a1)], []⟩ (fin99 r)
 unfold F99 at h
 refine qN [] 100 ⟨[(2, .ptr 100 0), (3, .ptr 101 0), (4, .ptr 102 0)], [(100, bx t101 a0), (101, bx t101 a1), (102, bx t86 ((false, ([] : List Int)), (false, ([] : List Int))))]⟩ aN ?_
 obtain ⟨y1, h_y1, h⟩ := bnd_elim h
 obtain ⟨y2, h_y2, h⟩ := bnd_elim h
 obtain ⟨y3, h_y3, h⟩ := bnd_elim h
 refine qN [(4, .call (.d t86 y1)), (9, .call (.d t86 y2)), (10, .call (.d t86 y3))] 200 ⟨[(4, .ptr 102 0)], [(102, bx t86 y3)]⟩ (aC (c102 h_y1) (aC (c102 h_y2) (aC (c118 h_y3) aN))) ?_
 refine Run.rt ?_
 obtain rfl := sI h
 exact qR [(.d t86 y3)]

/-! ## f77 -/

noncomputable def c_77 : Code := body0 Go.Proofs.Tryz.f77

def fin77 (r : Int) : Ex → St → Prop := endK X0 [.tmp 2] [3] (.d t2 r)

def F77 (a0 : RatL) : Option (Int) :=
 (F91 a0.1).bind fun y1 =>
 some y1

theorem c77 {a0 : RatL} {r : Int} (h : F77 a0 = some r) : CallPure Pg 77 [(.d t86 a0)] (.d t2 r) := by
 refine qC c_77 6 [.tmp 2] [3] Go.Proofs.Tryz.func77 ?_
 show Run Pg 6 c_77 ⟨[(0, .d t86 a0)], []⟩ (fin77 r)
 unfold F77 at h
 refine qN [] 100 ⟨[(1, .ptr 100 0)], [(100, bx t86 a0)]⟩ aN ?_
 obtain ⟨y1, h_y1, h⟩ := bnd_elim h
 refine qN [(2, .call (.d t2 y1))] 200 ⟨[(2, .d t2 y1)], []⟩ (aC (c91 h_y1) aN) ?_
 refine Run.rt ?_
 obtain rfl := sI h
 exact qR [(.d t2 y1)]

/-! ## f79 -/

noncomputable def c_79 : Code := body0 Go.Proofs.Tryz.f79

def fin79 (r : Bool) : Ex → St → Prop := endK X0 [.tmp 8] [4] (.d t4 r)

def F79 (a0 : RatL × RatL) (a1 : RatL × RatL) (a2 : RatL × RatL) (a3 : RatL × RatL) : Option (Bool) :=
 (F98 a0 a1).bind fun y1 =>
 (F98 a2 a3).bind fun y2 =>
 (F98 a0 a2).bind fun y3 =>
 (F99 y1 y3).bind fun y4 =>
 (F77 y4).bind fun y5 =>
 (F98 a0 a3).bind fun y6 =>
 (F99 y1 y6).bind fun y7 =>
 (F77 y7).bind fun y8 =>
 (bif (decide ((wrapI .i64 (y5 * y8)) < (0 : Int))) then
 (F98 a2 a0).bind fun y9 =>
 (F99 y2 y9).bind fun y10 =>
 (F77 y10).bind fun y11 =>
 (F98 a2 a1).bind fun y12 =>
 (F99 y2 y12).bind fun y13 =>
 (F77 y13).bind fun y14 =>
 some (decide ((wrapI .i64 (y11 * y14)) < (0 : Int)))
 else
 some false)

theorem c79 {a0 : RatL × RatL} {a1 : RatL × RatL} {a2 : RatL × RatL} {a3 : RatL × RatL} {r : Bool} (h : F79 a0 a1 a2 a3 = some r) : CallPure Pg 79 [(.d t101 a0), (.d t101 a1), (.d t101 a2), (.d t101 a3)] (.d t4 r) := by
 refine qC c_79 47 [.tmp 8] [4] Go.Proofs.Tryz.func79 ?_
 show Run Pg 47 c_79 ⟨[(0, .d t101 a0), (1, .d t101 a1), (2, .d t101 a2), (3, .d t101 a3)], []⟩ (fin79 r)
 unfold F79 at h
 refine qN [] 100 ⟨[(4, .ptr 100 0), (5, .ptr 101 0), (6, .ptr 102 0), (7, .ptr 103 0)], [(100, bx t101 a0), (101, bx t101 a1), (102, bx t101 a2), (103, bx t101 a3)]⟩ aN ?_
 obtain ⟨y1, h_y1, h⟩ := bnd_elim h
 obtain ⟨y2, h_y2, h⟩ := bnd_elim h
 refine qN [(2, .call (.d t101 y1)), (5, .call (.d t101 y2))] 200 ⟨[(4, .ptr 100 0), (5, .ptr 101 0), (6, .ptr 102 0), (7, .ptr 103 0), (9, .ptr 206 0), (10, .ptr 207 0)], [(100, bx t101 a0), (101, bx t101 a1), (102, bx t101 a2), (103, bx t101 a3), (206, bx t101 y1), (207, bx t101 y2)]⟩ (aC (c98 h_y1) (aC (c98 h_y2) aN)) ?_
 obtain ⟨y3, h_y3, h⟩ := bnd_elim h
 obtain ⟨y4, h_y4, h⟩ := bnd_elim h
 obtain ⟨y5, h_y5, h⟩ := bnd_elim h
 obtain ⟨y6, h_y6, h⟩ := bnd_elim h
 obtain ⟨y7, h_y7, h⟩ := bnd_elim h
 obtain ⟨y8, h_y8, h⟩ := bnd_elim h
 rcases bif_elim h with ⟨hb6, h⟩ | ⟨hb6, h⟩
 ·obtain ⟨y9, h_y9, h⟩ := bnd_elim h
  obtain ⟨y10, h_y10, h⟩ := bnd_elim h
  obtain ⟨y11, h_y11, h⟩ := bnd_elim h
  obtain ⟨y12, h_y12, h⟩ := bnd_elim h
  obtain ⟨y13, h_y13, h⟩ := bnd_elim h
  obtain ⟨y14, h_y14, h⟩ := bnd_elim h
  refine qN [(3, .call (.d t101 y3)), (4, .call (.d t86 y4)), (5, .call (.d t2 y5)), (9, .call (.d t101 y6)), (10, .call (.d t86 y7)), (11, .call (.d t2 y8)), (14, .b true), (18, .call (.d t101 y9)), (19, .call (.d t86 y10)), (20, .call (.d t2 y11)), (24, .call (.d t101 y12)), (25, .call (.d t86 y13)), (26, .call (.d t2 y14))] 300 ⟨[(8, .d t4 (decide ((wrapI .i64 (y11 * y14)) < (0 : Int))))], []⟩ (aC (c98 h_y3) (aC (c99 h_y4) (aC (c77 h_y5) (aC (c98 h_y6) (aC (c99 h_y7) (aC (c77 h_y8) (aC hb6 (aC (c98 h_y9) (aC (c99 h_y10) (aC (c77 h_y11) (aC (c98 h_y12) (aC (c99 h_y13) (aC (c77 h_y14) aN))))))))))))) ?_
  refine Run.rt ?_
  obtain rfl := sI h
  exact qR [(.d t4 (decide ((wrapI .i64 (y11 * y14)) < (0 : Int))))]
 ·refine qN [(3, .call (.d t101 y3)), (4, .call (.d t86 y4)), (5, .call (.d t2 y5)), (9, .call (.d t101 y6)), (10, .call (.d t86 y7)), (11, .call (.d t2 y8)), (14, .b false)] 300 ⟨[(8, .d t4 false)], []⟩ (aC (c98 h_y3) (aC (c99 h_y4) (aC (c77 h_y5) (aC (c98 h_y6) (aC (c99 h_y7) (aC (c77 h_y8) (aC hb6 aN))))))) ?_
  refine Run.rt ?_
  obtain rfl := sI h
  exact qR [(.d t4 false)]

/-! ## f119 -/

noncomputable def c_119 : Code := body0 Go.Proofs.Tryz.f119

def fin119 (r : RatL) : Ex → St → Prop := endK X0 [.cell 4 87] [87] (.d t86 r)

def F119 (a0 : RatL) (a1 : RatL) : Option RatL :=
 (F134 a0 a1).bind fun y1 =>
 some y1

theorem c119 {a0 : RatL} {a1 : RatL} {r : RatL} (h : F119 a0 a1 = some r) : CallPure Pg 119 [(.d t86 a0), (.d t86 a1)] (.d t86 r) := by
 refine qC c_119 8 [.cell 4 87] [87] Go.Proofs.Tryz.func119 ?_
 show Run Pg 8 c_119 ⟨[(0, .d t86 a0), (1, .d t86 a1)], []⟩ (fin119 r)
 unfold F119 at h
 refine qN [] 100 ⟨[(2, .ptr 100 0), (3, .ptr 101 0), (4, .ptr 102 0)], [(100, bx t86 a0), (101, bx t86 a1), (102, bx t86 ((false, ([] : List Int)), (false, ([] : List Int))))]⟩ aN ?_
 obtain ⟨y1, h_y1, h⟩ := bnd_elim h
 refine qN [(2, .call (.d t86 y1))] 200 ⟨[(4, .ptr 102 0)], [(102, bx t86 y1)]⟩ (aC (c134 h_y1) aN) ?_
 refine Run.rt ?_
 obtain rfl := sI h
 exact qR [(.d t86 y1)]

/-! ## f100 -/

noncomputable def c_100 : Code := body0 Go.Proofs.Tryz.f100

def fin100 (r : RatL) : Ex → St → Prop := endK X0 [.cell 4 87] [87] (.d t86 r)

def F100 (a0 : RatL × RatL) (a1 : RatL × RatL) : Option RatL :=
 (F102 a0.1 a1.1).bind fun y1 =>
 (F102 a0.2 a1.2).bind fun y2 =>
 (F119 y1 y2).bind fun y3 =>
 some y3

theorem c100 {a0 : RatL × RatL} {a1 : RatL × RatL} {r : RatL} (h : F100 a0 a1 = some r) : CallPure Pg 100 [(.d t101 a0), (.d t101 a1)] (.d t86 r) := by
 refine qC c_100 16 [.cell 4 87] [87] Go.Proofs.Tryz.func100 ?_
 show Run Pg 16 c_100 ⟨[(0, .d t101 a0), (1, .d t101 a1)], []⟩ (fin100 r)
 unfold F100 at h
 refine qN [] 100 ⟨[(2, .ptr 100 0), (3, .ptr 101 0), (4, .ptr 102 0)], [(100, bx t101 a0), (101, bx t101 a1), (102, bx t86 ((false, ([] : List Int)), (false, ([] : List Int))))]⟩ aN ?_
 obtain ⟨y1, h_y1, h⟩ := bnd_elim h
 obtain ⟨y2, h_y2, h⟩ := bnd_elim h
 obtain ⟨y3, h_y3, h⟩ := bnd_elim h
 refine qN [(4, .call (.d t86 y1)), (9, .call (.d t86 y2)), (10, .call (.d t86 y3))] 200 ⟨[(4, .ptr 102 0)], [(102, bx t86 y3)]⟩ (aC (c102 h_y1) (aC (c102 h_y2) (aC (c119 h_y3) aN))) ?_
 refine Run.rt ?_
 obtain rfl := sI h
 exact qR [(.d t86 y3)]

/-! ## f96 -/

noncomputable def c_96 : Code := body0 Go.Proofs.Tryz.f96

def fin96 (r : Bool) : Ex → St → Prop := endK X0 [.tmp 2] [4] (.d t4 r)

def F96 (a0 : Int) : Option (Bool) :=
 some (a0 != a0)

theorem c96 {a0 : Int} {r : Bool} (h : F96 a0 = some r) : CallPure Pg 96 [(.d t2 a0)] (.d t4 r) := by
 refine qC c_96 6 [.tmp 2] [4] Go.Proofs.Tryz.func96 ?_
 show Run Pg 6 c_96 ⟨[(0, .d t2 a0)], []⟩ (fin96 r)
 unfold F96 at h
 refine qN [] 100 ⟨[(0, .d t2 a0)], []⟩ aN ?_
 refine qN [] 200 ⟨[(2, .d t4 (a0 != a0))], []⟩ aN ?_
 refine Run.rt ?_
 obtain rfl := sI h
 exact qR [(.d t4 (a0 != a0))]

/-! ## f76 -/

noncomputable def c_76 : Code := body0 Go.Proofs.Tryz.f76

def fin76 (r : Int) : Ex → St → Prop := endK X0 [.tmp 4] [3] (.d t2 r)

def F76 (a0 : Int) (a1 : Int) : Option (Int) :=
 (F96 a0).bind fun y1 =>
 (F96 a1).bind fun y2 =>
 (bif y1 then
 (bif y2 then
 some (0 : Int)
 else
 some (-1 : Int))
 else
 (bif y2 then
 some (1 : Int)
 else
 (bif (decide (a0 < a1)) then
 some (-1 : Int)
 else
 (bif (decide (a1 < a0)) then
 some (1 : Int)
 else
 some (0 : Int)))))

theorem c76 {a0 : Int} {a1 : Int} {r : Int} (h : F76 a0 a1 = some r) : CallPure Pg 76 [(.d t2 a0), (.d t2 a1)] (.d t2 r) := by
 refine qC c_76 20 [.tmp 4] [3] Go.Proofs.Tryz.func76 ?_
 show Run Pg 20 c_76 ⟨[(0, .d t2 a0), (1, .d t2 a1)], []⟩ (fin76 r)
 unfold F76 at h
 refine qN [] 100 ⟨[(0, .d t2 a0), (1, .d t2 a1)], []⟩ aN ?_
 obtain ⟨y1, h_y1, h⟩ := bnd_elim h
 refine qN [(1, .call (.d t4 y1))] 200 ⟨[(0, .d t2 a0), (1, .d t2 a1), (5, .d t4 y1)], []⟩ (aC (c96 h_y1) aN) ?_
 obtain ⟨y2, h_y2, h⟩ := bnd_elim h
 refine qN [(1, .call (.d t4 y2))] 300 ⟨[(0, .d t2 a0), (1, .d t2 a1), (5, .d t4 y1), (6, .d t4 y2)], []⟩ (aC (c96 h_y2) aN) ?_
 refine Run.sq ?_
 refine qN [] 400 ⟨[(0, .d t2 a0), (1, .d t2 a1), (6, .d t4 y2), (11, .d t4 y1)], []⟩ aN ?_
 refine Run.cd y1 (fun hb => ?_) (fun hb => ?_)
 ·replace h := bif_t h hb
  refine Run.sq ?_
  refine qN [] 500 ⟨[(12, .d t4 y2)], []⟩ aN ?_
  refine Run.cd y2 (fun hb => ?_) (fun hb => ?_)
  ·replace h := bif_t h hb
   refine qN [] 600 ⟨[(4, .d t2 (0 : Int))], []⟩ aN ?_
   refine Run.rt ?_
   obtain rfl := sI h
   exact qR [(.d t2 (0 : Int))]
  ·replace h := bif_f h hb
   refine Run.sk ?_
   show Run Pg 20 _ _ _
   refine qN [] 700 ⟨[(4, .d t2 (-1 : Int))], []⟩ aN ?_
   refine Run.rt ?_
   obtain rfl := sI h
   exact qR [(.d t2 (-1 : Int))]
 ·replace h := bif_f h hb
  refine Run.sk ?_
  show Run Pg 20 _ _ _
  refine Run.sq ?_
  refine qN [] 800 ⟨[(0, .d t2 a0), (1, .d t2 a1), (13, .d t4 y2)], []⟩ aN ?_
  refine Run.cd y2 (fun hb => ?_) (fun hb => ?_)
  ·replace h := bif_t h hb
   refine qN [] 900 ⟨[(4, .d t2 (1 : Int))], []⟩ aN ?_
   refine Run.rt ?_
   obtain rfl := sI h
   exact qR [(.d t2 (1 : Int))]
  ·replace h := bif_f h hb
   refine Run.sk ?_
   show Run Pg 20 _ _ _
   refine Run.sq ?_
   refine qN [] 1000 ⟨[(0, .d t2 a0), (1, .d t2 a1), (16, .d t4 (decide (a0 < a1)))], []⟩ aN ?_
   refine Run.cd (decide (a0 < a1)) (fun hb => ?_) (fun hb => ?_)
   ·replace h := bif_t h hb
    refine qN [] 1100 ⟨[(4, .d t2 (-1 : Int))], []⟩ aN ?_
    refine Run.rt ?_
    obtain rfl := sI h
    exact qR [(.d t2 (-1 : Int))]
   ·replace h := bif_f h hb
    refine Run.sk ?_
    show Run Pg 20 _ _ _
    refine Run.sq ?_
    refine qN [] 1200 ⟨[(19, .d t4 (decide (a1 < a0)))], []⟩ aN ?_
    refine Run.cd (decide (a1 < a0)) (fun hb => ?_) (fun hb => ?_)
    ·replace h := bif_t h hb
     refine qN [] 1300 ⟨[(4, .d t2 (1 : Int))], []⟩ aN ?_
     refine Run.rt ?_
     obtain rfl := sI h
     exact qR [(.d t2 (1 : Int))]
    ·replace h := bif_f h hb
     refine Run.sk ?_
     show Run Pg 20 _ _ _
     refine qN [] 1400 ⟨[(4, .d t2 (0 : Int))], []⟩ aN ?_
     refine Run.rt ?_
     obtain rfl := sI h
     exact qR [(.d t2 (0 : Int))]

/-! ## f62 -/

noncomputable def c_62 : Code := body0 Go.Proofs.Tryz.f62

def fin62 (r : Int) : Ex → St → Prop := endK X0 [.tmp 4] [3] (.d t2 r)

def F62 (a0 : RatL) (a1 : RatL) : Option (Int) :=
 (F77 a0).bind fun y1 =>
 (F77 a1).bind fun y2 =>
 (F76 y1 y2).bind fun y3 =>
 (bif (y3 != (0 : Int)) then
 some y3
 else
 (F75 a0.1 a1.2).bind fun y4 =>
 (F75 a1.1 a0.2).bind fun y5 =>
 (F78 y4 y5).bind fun y6 =>
 some y6)

theorem c62 {a0 : RatL} {a1 : RatL} {r : Int} (h : F62 a0 a1 = some r) : CallPure Pg 62 [(.d t86 a0), (.d t86 a1)] (.d t2 r) := by
 refine qC c_62 25 [.tmp 4] [3] Go.Proofs.Tryz.func62 ?_
 show Run Pg 25 c_62 ⟨[(0, .d t86 a0), (1, .d t86 a1)], []⟩ (fin62 r)
 unfold F62 at h
 refine qN [] 100 ⟨[(2, .ptr 100 0), (3, .ptr 101 0)], [(100, bx t86 a0), (101, bx t86 a1)]⟩ aN ?_
 refine Run.sq ?_
 obtain ⟨y1, h_y1, h⟩ := bnd_elim h
 obtain ⟨y2, h_y2, h⟩ := bnd_elim h
 obtain ⟨y3, h_y3, h⟩ := bnd_elim h
 refine qN [(1, .call (.d t2 y1)), (3, .call (.d t2 y2)), (4, .call (.d t2 y3))] 200 ⟨[(2, .ptr 100 0), (3, .ptr 101 0), (5, .d t2 y3)], [(100, bx t86 a0), (101, bx t86 a1)]⟩ (aC (c77 h_y1) (aC (c77 h_y2) (aC (c76 h_y3) aN))) ?_
 refine qN [] 300 ⟨[(2, .ptr 100 0), (3, .ptr 101 0), (5, .d t2 y3), (12, .d t4 (y3 != (0 : Int)))], [(100, bx t86 a0), (101, bx t86 a1)]⟩ aN ?_
 refine Run.cd (y3 != (0 : Int)) (fun hb => ?_) (fun hb => ?_)
 ·replace h := bif_t h hb
  refine qN [] 400 ⟨[(4, .d t2 y3)], []⟩ aN ?_
  refine Run.rt ?_
  obtain rfl := sI h
  exact qR [(.d t2 y3)]
 ·replace h := bif_f h hb
  refine Run.sk ?_
  show Run Pg 25 _ _ _
  obtain ⟨y4, h_y4, h⟩ := bnd_elim h
  obtain ⟨y5, h_y5, h⟩ := bnd_elim h
  obtain ⟨y6, h_y6, h⟩ := bnd_elim h
  refine qN [(4, .call (.d t84 y4)), (9, .call (.d t84 y5)), (10, .call (.d t2 y6))] 500 ⟨[(4, .d t2 y6)], []⟩ (aC (c75 h_y4) (aC (c75 h_y5) (aC (c78 h_y6) aN))) ?_
  refine Run.rt ?_
  obtain rfl := sI h
  exact qR [(.d t2 y6)]

/-! ## f120 -/

noncomputable def c_120 : Code := body0 Go.Proofs.Tryz.f120

def fin120 (r : RatL × Int) : Ex → St → Prop := endK X0 [.cell 4 87, .tmp 5] [87, 41] (.tup (.vcons (.d t86 r.1) (.vcons (.d t2 r.2) .vnil)))

def F120 (a0 : RatL) (a1 : RatL) : Option (RatL × Int) :=
 (F77 a1).bind fun y1 =>
 (bif (y1 == (0 : Int)) then
 some (((false, ([] : List Int)), (false, ([] : List Int))), (6 : Int))
 else
 (F75 a0.1 a1.2).bind fun y2 =>
 (F75 a0.2 a1.1).bind fun y3 =>
 (F74 y2 y3).bind fun y4 =>
 some (y4, (0 : Int)))

theorem c120 {a0 : RatL} {a1 : RatL} {r : RatL × Int} (h : F120 a0 a1 = some r) : CallPure Pg 120 [(.d t86 a0), (.d t86 a1)] (.tup (.vcons (.d t86 r.1) (.vcons (.d t2 r.2) .vnil))) := by
 refine qC c_120 21 [.cell 4 87, .tmp 5] [87, 41] Go.Proofs.Tryz.func120 ?_
 show Run Pg 21 c_120 ⟨[(0, .d t86 a0), (1, .d t86 a1)], []⟩ (fin120 r)
 unfold F120 at h
 refine qN [] 100 ⟨[(2, .ptr 100 0), (3, .ptr 101 0), (4, .ptr 102 0)], [(100, bx t86 a0), (101, bx t86 a1), (102, bx t86 ((false, ([] : List Int)), (false, ([] : List Int))))]⟩ aN ?_
 refine Run.sq ?_
 obtain ⟨y1, h_y1, h⟩ := bnd_elim h
 refine qN [(1, .call (.d t2 y1))] 200 ⟨[(2, .ptr 100 0), (3, .ptr 101 0), (4, .ptr 102 0), (8, .d t4 (y1 == (0 : Int)))], [(100, bx t86 a0), (101, bx t86 a1), (102, bx t86 ((false, ([] : List Int)), (false, ([] : List Int))))]⟩ (aC (c77 h_y1) aN) ?_
 refine Run.cd (y1 == (0 : Int)) (fun hb => ?_) (fun hb => ?_)
 ·replace h := bif_t h hb
  refine qN [] 300 ⟨[(4, .ptr 102 0), (5, .d t2 (6 : Int))], [(102, bx t86 ((false, ([] : List Int)), (false, ([] : List Int))))]⟩ aN ?_
  refine Run.rt ?_
  obtain rfl := sI h
  exact qR [(.d t86 ((false, ([] : List Int)), (false, ([] : List Int)))), (.d t2 (6 : Int))]
 ·replace h := bif_f h hb
  refine Run.sk ?_
  show Run Pg 21 _ _ _
  obtain ⟨y2, h_y2, h⟩ := bnd_elim h
  obtain ⟨y3, h_y3, h⟩ := bnd_elim h
  obtain ⟨y4, h_y4, h⟩ := bnd_elim h
  refine qN [(4, .call (.d t84 y2)), (9, .call (.d t84 y3)), (10, .call (.d t86 y4))] 400 ⟨[(4, .ptr 102 0), (5, .d t2 (0 : Int))], [(102, bx t86 y4)]⟩ (aC (c75 h_y2) (aC (c75 h_y3) (aC (c74 h_y4) aN))) ?_
  refine Run.rt ?_
  obtain rfl := sI h
  exact qR [(.d t86 y4), (.d t2 (0 : Int))]

/-! ## f101 -/

noncomputable def c_101 : Code := body0 Go.Proofs.Tryz.f101

def fin101 (r : RatL) : Ex → St → Prop := endK X0 [.cell 4 87] [87] (.d t86 r)

def F101 (a0 : RatL) (a1 : RatL) : Option RatL :=
 (F120 a0 a1).bind fun y1 =>
 (bif (y1.2 != (0 : Int)) then
 (F59 (0 : Int)).bind fun y2 =>
 some y2
 else
 some y1.1)

theorem c101 {a0 : RatL} {a1 : RatL} {r : RatL} (h : F101 a0 a1 = some r) : CallPure Pg 101 [(.d t86 a0), (.d t86 a1)] (.d t86 r) := by
 refine qC c_101 17 [.cell 4 87] [87] Go.Proofs.Tryz.func101 ?_
 show Run Pg 17 c_101 ⟨[(0, .d t86 a0), (1, .d t86 a1)], []⟩ (fin101 r)
 unfold F101 at h
 refine qN [] 100 ⟨[(2, .ptr 100 0), (3, .ptr 101 0), (4, .ptr 102 0)], [(100, bx t86 a0), (101, bx t86 a1), (102, bx t86 ((false, ([] : List Int)), (false, ([] : List Int))))]⟩ aN ?_
 obtain ⟨y1, h_y1, h⟩ := bnd_elim h
 refine qN [(2, .call (.tup (.vcons (.d t86 y1.1) (.vcons (.d t2 y1.2) .vnil))))] 200 ⟨[(4, .ptr 102 0), (5, .ptr 206 0), (6, .d t2 y1.2)], [(102, bx t86 ((false, ([] : List Int)), (false, ([] : List Int)))), (206, bx t86 y1.1)]⟩ (aC (c120 h_y1) aN) ?_
 refine Run.sq ?_
 refine qN [] 300 ⟨[(4, .ptr 102 0), (5, .ptr 206 0), (14, .d t4 (y1.2 != (0 : Int)))], [(102, bx t86 ((false, ([] : List Int)), (false, ([] : List Int)))), (206, bx t86 y1.1)]⟩ aN ?_
 refine Run.cd (y1.2 != (0 : Int)) (fun hb => ?_) (fun hb => ?_)
 ·replace h := bif_t h hb
  obtain ⟨y2, h_y2, h⟩ := bnd_elim h
  refine qN [(0, .call (.d t86 y2))] 400 ⟨[(4, .ptr 102 0)], [(102, bx t86 y2)]⟩ (aC (c59 h_y2) aN) ?_
  refine Run.rt ?_
  obtain rfl := sI h
  exact qR [(.d t86 y2)]
 ·replace h := bif_f h hb
  refine Run.sk ?_
  show Run Pg 17 _ _ _
  refine qN [] 500 ⟨[(4, .ptr 102 0)], [(102, bx t86 y1.1)]⟩ aN ?_
  refine Run.rt ?_
  obtain rfl := sI h
  exact qR [(.d t86 y1.1)]

/-! ## f80 -/

noncomputable def c_80 : Code := body0 Go.Proofs.Tryz.f80

def fin80 (r : RatL) : Ex → St → Prop := endK X0 [.cell 6 87] [87] (.d t86 r)

def F80 (a0 : RatL × RatL) (a1 : RatL × RatL) (a2 : RatL × RatL) : Option RatL :=
 (F98 a0 a1).bind fun y1 =>
 (F98 a0 a2).bind fun y2 =>
 (F100 y1 y1).bind fun y3 =>
 (F100 y1 y2).bind fun y4 =>
 (F77 y4).bind fun y5 =>
 (bif (decide (y5 ≤ (0 : Int))) then
 (F100 y2 y2).bind fun y6 =>
 some y6
 else
 (F62 y4 y3).bind fun y7 =>
 (bif (decide ((0 : Int) ≤ y7)) then
 (F98 a1 a2).bind fun y8 =>
 (F100 y8 y8).bind fun y9 =>
 some y9
 else
 (F99 y1 y2).bind fun y10 =>
 (F102 y10 y10).bind fun y11 =>
 (F101 y11 y3).bind fun y12 =>
 some y12))

theorem c80 {a0 : RatL × RatL} {a1 : RatL × RatL} {a2 : RatL × RatL} {r : RatL} (h : F80 a0 a1 a2 = some r) : CallPure Pg 80 [(.d t101 a0), (.d t101 a1), (.d t101 a2)] (.d t86 r) := by
 refine qC c_80 51 [.cell 6 87] [87] Go.Proofs.Tryz.func80 ?_
 show Run Pg 51 c_80 ⟨[(0, .d t101 a0), (1, .d t101 a1), (2, .d t101 a2)], []⟩ (fin80 r)
 unfold F80 at h
 refine qN [] 100 ⟨[(3, .ptr 100 0), (4, .ptr 101 0), (5, .ptr 102 0), (6, .ptr 103 0)], [(100, bx t101 a0), (101, bx t101 a1), (102, bx t101 a2), (103, bx t86 ((false, ([] : List Int)), (false, ([] : List Int))))]⟩ aN ?_
 obtain ⟨y1, h_y1, h⟩ := bnd_elim h
 obtain ⟨y2, h_y2, h⟩ := bnd_elim h
 refine qN [(2, .call (.d t101 y1)), (5, .call (.d t101 y2))] 200 ⟨[(4, .ptr 101 0), (5, .ptr 102 0), (6, .ptr 103 0), (7, .ptr 206 0), (8, .ptr 207 0)], [(101, bx t101 a1), (102, bx t101 a2), (103, bx t86 ((false, ([] : List Int)), (false, ([] : List Int)))), (206, bx t101 y1), (207, bx t101 y2)]⟩ (aC (c98 h_y1) (aC (c98 h_y2) aN)) ?_
 obtain ⟨y3, h_y3, h⟩ := bnd_elim h
 obtain ⟨y4, h_y4, h⟩ := bnd_elim h
 refine qN [(2, .call (.d t86 y3)), (5, .call (.d t86 y4))] 300 ⟨[(4, .ptr 101 0), (5, .ptr 102 0), (6, .ptr 103 0), (7, .ptr 206 0), (8, .ptr 207 0), (9, .ptr 306 0), (10, .ptr 307 0)], [(101, bx t101 a1), (102, bx t101 a2), (103, bx t86 ((false, ([] : List Int)), (false, ([] : List Int)))), (206, bx t101 y1), (207, bx t101 y2), (306, bx t86 y3), (307, bx t86 y4)]⟩ (aC (c100 h_y3) (aC (c100 h_y4) aN)) ?_
 refine Run.sq ?_
 refine Run.bl 0 ?_
 obtain ⟨y5, h_y5, h⟩ := bnd_elim h
 refine qN [(1, .call (.d t2 y5))] 400 ⟨[(4, .ptr 101 0), (5, .ptr 102 0), (6, .ptr 103 0), (7, .ptr 206 0), (8, .ptr 207 0), (9, .ptr 306 0), (10, .ptr 307 0), (25, .d t4 (decide (y5 ≤ (0 : Int))))], [(101, bx t101 a1), (102, bx t101 a2), (103, bx t86 ((false, ([] : List Int)), (false, ([] : List Int)))), (206, bx t101 y1), (207, bx t101 y2), (306, bx t86 y3), (307, bx t86 y4)]⟩ (aC (c77 h_y5) aN) ?_
 refine Run.cd (decide (y5 ≤ (0 : Int))) (fun hb => ?_) (fun hb => ?_)
 ·replace h := bif_t h hb
  obtain ⟨y6, h_y6, h⟩ := bnd_elim h
  refine qN [(2, .call (.d t86 y6))] 500 ⟨[(6, .ptr 103 0)], [(103, bx t86 y6)]⟩ (aC (c100 h_y6) aN) ?_
  refine Run.rt ?_
  obtain rfl := sI h
  exact qR [(.d t86 y6)]
 ·replace h := bif_f h hb
  obtain ⟨y7, h_y7, h⟩ := bnd_elim h
  refine qN [(2, .call (.d t2 y7))] 600 ⟨[(4, .ptr 101 0), (5, .ptr 102 0), (6, .ptr 103 0), (7, .ptr 206 0), (8, .ptr 207 0), (9, .ptr 306 0), (32, .d t4 (decide ((0 : Int) ≤ y7)))], [(101, bx t101 a1), (102, bx t101 a2), (103, bx t86 ((false, ([] : List Int)), (false, ([] : List Int)))), (206, bx t101 y1), (207, bx t101 y2), (306, bx t86 y3)]⟩ (aC (c62 h_y7) aN) ?_
  refine Run.cd (decide ((0 : Int) ≤ y7)) (fun hb => ?_) (fun hb => ?_)
  ·replace h := bif_t h hb
   obtain ⟨y8, h_y8, h⟩ := bnd_elim h
   refine qN [(2, .call (.d t101 y8))] 700 ⟨[(6, .ptr 103 0), (11, .ptr 703 0)], [(103, bx t86 ((false, ([] : List Int)), (false, ([] : List Int)))), (703, bx t101 y8)]⟩ (aC (c98 h_y8) aN) ?_
   obtain ⟨y9, h_y9, h⟩ := bnd_elim h
   refine qN [(2, .call (.d t86 y9))] 800 ⟨[(6, .ptr 103 0)], [(103, bx t86 y9)]⟩ (aC (c100 h_y9) aN) ?_
   refine Run.rt ?_
   obtain rfl := sI h
   exact qR [(.d t86 y9)]
  ·replace h := bif_f h hb
   refine Run.sk ?_
   show Run Pg 51 _ _ _
   obtain ⟨y10, h_y10, h⟩ := bnd_elim h
   refine qN [(2, .call (.d t86 y10))] 900 ⟨[(6, .ptr 103 0), (9, .ptr 306 0), (12, .ptr 903 0)], [(103, bx t86 ((false, ([] : List Int)), (false, ([] : List Int)))), (306, bx t86 y3), (903, bx t86 y10)]⟩ (aC (c99 h_y10) aN) ?_
   obtain ⟨y11, h_y11, h⟩ := bnd_elim h
   obtain ⟨y12, h_y12, h⟩ := bnd_elim h
   refine qN [(2, .call (.d t86 y11)), (4, .call (.d t86 y12))] 1000 ⟨[(6, .ptr 103 0)], [(103, bx t86 y12)]⟩ (aC (c102 h_y11) (aC (c101 h_y12) aN)) ?_
   refine Run.rt ?_
   obtain rfl := sI h
   exact qR [(.d t86 y12)]

/-! ## f63 -/

noncomputable def c_63 : Code := body0 Go.Proofs.Tryz.f63

def fin63 (r : RatL) : Ex → St → Prop := endK X0 [.cell 8 87] [87] (.d t86 r)

def f63_c1_post (x22 : List RatL) (x23 : Int) (x24 : Int) (x25 : Bool) (x26 : RatL) (x27 : RatL) (x28 : RatL) : RatL → Ex → St → Prop
 | o, x, s => x = .nrm ∧ s = ⟨[(8, .ptr 104 0), (9, .ptr 404 0), (34, .d t116 x22), (35, .d t2 x23), (36, .d t2 x24)], [(104, bx t86 x26), (404, bx t86 o)]⟩

def f63_c1 (x25 : Bool) (x27 : RatL) (x28 : RatL) : Option RatL :=
 (bif x25 then
 some x28
 else
 some x27)

theorem f63_c1_ok (x22 : List RatL) (x23 : Int) (x24 : Int) (x25 : Bool) (x26 : RatL) (x27 : RatL) (x28 : RatL) {out : RatL} (h : f63_c1 x25 x27 x28 = some out) : Run Pg 47 (sq2 (sq2 (bk1 (sq1 (sq2 (sq2 (lp1 (bk1 (sq2 (sq1 (sq2 (sq2 (sq2 c_63))))))))))))) ⟨[(8, .ptr 104 0), (9, .ptr 404 0), (11, .ptr 702 0), (34, .d t116 x22), (35, .d t2 x23), (36, .d t2 x24), (43, .d t4 x25)], [(104, bx t86 x26), (404, bx t86 x27), (702, bx t86 x28)]⟩ (f63_c1_post x22 x23 x24 x25 x26 x27 x28 out) := by
 unfold f63_c1 at h
 refine Run.cd x25 (fun hb => ?_) (fun hb => ?_)
 ·replace h := bif_t h hb
  refine qE [] 900 ⟨[(8, .ptr 104 0), (9, .ptr 404 0), (34, .d t116 x22), (35, .d t2 x23), (36, .d t2 x24)], [(104, bx t86 x26), (404, bx t86 x28)]⟩ aN ?_
  obtain rfl := sI h
  exact ⟨rfl, by kernel_rfl⟩
 ·replace h := bif_f h hb
  refine qK ⟨[(8, .ptr 104 0), (9, .ptr 404 0), (34, .d t116 x22), (35, .d t2 x23), (36, .d t2 x24)], [(104, bx t86 x26), (404, bx t86 x27)]⟩ ?_
  refine Run.sk ?_
  obtain rfl := sI h
  exact ⟨rfl, by kernel_rfl⟩

def f63_l0_post (x7 : List RatL) (x8 : Int) (x10 : RatL) : RatL → Ex → St → Prop
 | o, x, s => x = .out 0 ∧ s = ⟨[(8, .ptr 104 0), (9, .ptr 404 0)], [(104, bx t86 x10), (404, bx t86 o)]⟩

def f63_l0_b (x7 : List RatL) (x8 : Int) (again : Int × RatL → Option RatL) : Int × RatL → Option RatL
 | (x9, x11) =>
 (bif (decide (x9 < x8)) then
 gd (0 ≤ x9) <|
 gd (x9 < ((List.length x7 : Nat) : Int)) <|
 (F62 (List.getD x7 (toN x9) ((false, ([] : List Int)), (false, ([] : List Int)))) x11).bind fun y21 =>
 ((f63_c1 (decide (y21 < (0 : Int))) x11 (List.getD x7 (toN x9) ((false, ([] : List Int)), (false, ([] : List Int))))).bind fun o29 =>
 again ((wrapI .i64 (x9 + (1 : Int))), o29))
 else
 some x11)

def f63_l0 (x7 : List RatL) (x8 : Int) : Nat → Int × RatL → Option RatL := loopF (f63_l0_b x7 x8)

theorem f63_l0_ok (x7 : List RatL) (x8 : Int) (x10 : RatL) (k : Nat) (x9 : Int) (x11 : RatL) {out : RatL} (h : f63_l0 x7 x8 k (x9, x11) = some out) : Run Pg 47 (bk1 (sq2 (sq1 (sq2 (sq2 (sq2 c_63)))))) ⟨[(8, .ptr 104 0), (9, .ptr 404 0), (34, .d t116 x7), (35, .d t2 x8), (36, .d t2 x9)], [(104, bx t86 x10), (404, bx t86 x11)]⟩ (f63_l0_post x7 x8 x10 out) := by
 refine Run.loopN (by kernel_rfl) (fun m s => ∃ x9 x11, s = ⟨[(8, .ptr 104 0), (9, .ptr 404 0), (34, .d t116 x7), (35, .d t2 x8), (36, .d t2 x9)], [(104, bx t86 x10), (404, bx t86 x11)]⟩ ∧ f63_l0 x7 x8 m (x9, x11) = some out) ?_ k ⟨x9, x11,  rfl, h⟩
 rintro m s ⟨x9, x11,  rfl, h⟩
 cases m with
 | zero => cases h
 | succ m =>
 replace h : f63_l0_b x7 x8 (f63_l0 x7 x8 m) (x9, x11) = some out := h
 unfold f63_l0_b at h
 refine qN [] 600 ⟨[(8, .ptr 104 0), (9, .ptr 404 0), (34, .d t116 x7), (35, .d t2 x8), (36, .d t2 x9), (37, .d t4 (decide (x9 < x8)))], [(104, bx t86 x10), (404, bx t86 x11)]⟩ aN ?_
 refine Run.sq ?_
 refine Run.cd (decide (x9 < x8)) (fun hb => ?_) (fun hb => ?_)
 ·replace h := bif_t h hb
  refine Run.sk ?_
  show Run Pg 47 _ _ _
  refine Run.sq ?_
  refine Run.bl 1 ?_
  obtain ⟨g_0, h⟩ := gd_elim h
  obtain ⟨g_1, h⟩ := gd_elim h
  refine qN [] 700 ⟨[(8, .ptr 104 0), (9, .ptr 404 0), (11, .ptr 702 0), (34, .d t116 x7), (35, .d t2 x8), (36, .d t2 x9)], [(104, bx t86 x10), (404, bx t86 x11), (702, bx t86 (List.getD x7 (toN x9) ((false, ([] : List Int)), (false, ([] : List Int)))))]⟩ (aC g_0 (aC g_1 aN)) ?_
  obtain ⟨y21, h_y21, h⟩ := bnd_elim h
  refine qN [(2, .call (.d t2 y21))] 800 ⟨[(8, .ptr 104 0), (9, .ptr 404 0), (11, .ptr 702 0), (34, .d t116 x7), (35, .d t2 x8), (36, .d t2 x9), (43, .d t4 (decide (y21 < (0 : Int))))], [(104, bx t86 x10), (404, bx t86 x11), (702, bx t86 (List.getD x7 (toN x9) ((false, ([] : List Int)), (false, ([] : List Int)))))]⟩ (aC (c62 h_y21) aN) ?_
  obtain ⟨o29, h_o29, h⟩ := bnd_elim h
  refine Run.mono (f63_c1_ok x7 x8 x9 (decide (y21 < (0 : Int))) x10 x11 (List.getD x7 (toN x9) ((false, ([] : List Int)), (false, ([] : List Int)))) h_o29) ?_
  rintro _ _ ⟨rfl, rfl⟩
  show Run Pg 47 _ _ _
  refine qE [] 1000 ⟨[(8, .ptr 104 0), (9, .ptr 404 0), (34, .d t116 x7), (35, .d t2 x8), (36, .d t2 (wrapI .i64 (x9 + (1 : Int))))], [(104, bx t86 x10), (404, bx t86 o29)]⟩ aN ?_
  exact ⟨m, Nat.lt_succ_self m, _, _, rfl, h⟩
 ·replace h := bif_f h hb
  refine qK ⟨[(8, .ptr 104 0), (9, .ptr 404 0)], [(104, bx t86 x10), (404, bx t86 x11)]⟩ ?_
  refine Run.ex 0 ?_
  obtain rfl := sI h
  exact ⟨rfl, by kernel_rfl⟩

def F63 (a0 : RatL × RatL) (a1 : RatL × RatL) (a2 : RatL × RatL) (a3 : RatL × RatL) : Option RatL :=
 (F79 a0 a1 a2 a3).bind fun y1 =>
 (bif y1 then
 (F59 (0 : Int)).bind fun y2 =>
 some y2
 else
 (F80 a0 a1 a2).bind fun y3 =>
 (F80 a0 a1 a3).bind fun y4 =>
 (F80 a2 a3 a0).bind fun y5 =>
 (F80 a2 a3 a1).bind fun y6 =>
 ((f63_l0 ([y4, y5, y6] : List RatL) (ofN (List.length ([y4, y5, y6] : List RatL))) (2 + List.length ([y4, y5, y6] : List RatL)) ((0 : Int), y3)).bind fun o30 =>
 some o30))

theorem c63 {a0 : RatL × RatL} {a1 : RatL × RatL} {a2 : RatL × RatL} {a3 : RatL × RatL} {r : RatL} (h : F63 a0 a1 a2 a3 = some r) : CallPure Pg 63 [(.d t101 a0), (.d t101 a1), (.d t101 a2), (.d t101 a3)] (.d t86 r) := by
 refine qC c_63 47 [.cell 8 87] [87] Go.Proofs.Tryz.func63 ?_
 show Run Pg 47 c_63 ⟨[(0, .d t101 a0), (1, .d t101 a1), (2, .d t101 a2), (3, .d t101 a3)], []⟩ (fin63 r)
 unfold F63 at h
 refine qN [] 100 ⟨[(4, .ptr 100 0), (5, .ptr 101 0), (6, .ptr 102 0), (7, .ptr 103 0), (8, .ptr 104 0)], [(100, bx t101 a0), (101, bx t101 a1), (102, bx t101 a2), (103, bx t101 a3), (104, bx t86 ((false, ([] : List Int)), (false, ([] : List Int))))]⟩ aN ?_
 refine Run.sq ?_
 obtain ⟨y1, h_y1, h⟩ := bnd_elim h
 refine qN [(4, .call (.d t4 y1))] 200 ⟨[(4, .ptr 100 0), (5, .ptr 101 0), (6, .ptr 102 0), (7, .ptr 103 0), (8, .ptr 104 0), (16, .d t4 y1)], [(100, bx t101 a0), (101, bx t101 a1), (102, bx t101 a2), (103, bx t101 a3), (104, bx t86 ((false, ([] : List Int)), (false, ([] : List Int))))]⟩ (aC (c79 h_y1) aN) ?_
 refine Run.cd y1 (fun hb => ?_) (fun hb => ?_)
 ·replace h := bif_t h hb
  obtain ⟨y2, h_y2, h⟩ := bnd_elim h
  refine qN [(0, .call (.d t86 y2))] 300 ⟨[(8, .ptr 104 0)], [(104, bx t86 y2)]⟩ (aC (c59 h_y2) aN) ?_
  refine Run.rt ?_
  obtain rfl := sI h
  exact qR [(.d t86 y2)]
 ·replace h := bif_f h hb
  refine Run.sk ?_
  show Run Pg 47 _ _ _
  obtain ⟨y3, h_y3, h⟩ := bnd_elim h
  refine qN [(3, .call (.d t86 y3))] 400 ⟨[(4, .ptr 100 0), (5, .ptr 101 0), (6, .ptr 102 0), (7, .ptr 103 0), (8, .ptr 104 0), (9, .ptr 404 0)], [(100, bx t101 a0), (101, bx t101 a1), (102, bx t101 a2), (103, bx t101 a3), (104, bx t86 ((false, ([] : List Int)), (false, ([] : List Int)))), (404, bx t86 y3)]⟩ (aC (c80 h_y3) aN) ?_
  refine Run.sq ?_
  obtain ⟨y4, h_y4, h⟩ := bnd_elim h
  obtain ⟨y5, h_y5, h⟩ := bnd_elim h
  obtain ⟨y6, h_y6, h⟩ := bnd_elim h
  refine qN [(3, .call (.d t86 y4)), (7, .call (.d t86 y5)), (11, .call (.d t86 y6))] 500 ⟨[(8, .ptr 104 0), (9, .ptr 404 0), (34, .d t116 ([y4, y5, y6] : List RatL)), (35, .d t2 (ofN (List.length ([y4, y5, y6] : List RatL)))), (36, .d t2 (0 : Int))], [(104, bx t86 ((false, ([] : List Int)), (false, ([] : List Int)))), (404, bx t86 y3)]⟩ (aC (c80 h_y4) (aC (c80 h_y5) (aC (c80 h_y6) aN))) ?_
  refine Run.bl 0 ?_
  obtain ⟨o30, h_o30, h⟩ := bnd_elim h
  refine Run.mono (f63_l0_ok ([y4, y5, y6] : List RatL) (ofN (List.length ([y4, y5, y6] : List RatL))) ((false, ([] : List Int)), (false, ([] : List Int))) _ (0 : Int) y3 h_o30) ?_
  rintro _ _ ⟨rfl, rfl⟩
  show Run Pg 47 _ _ _
  refine qN [] 1100 ⟨[(8, .ptr 104 0)], [(104, bx t86 o30)]⟩ aN ?_
  refine Run.rt ?_
  obtain rfl := sI h
  exact qR [(.d t86 o30)]

/-! ## f46 -/

noncomputable def c_46 : Code := body0 Go.Proofs.Tryz.f46

def fin46 (r : Bool) : Ex → St → Prop := endK X0 [.tmp 8] [4] (.d t4 r)

def f46_l0_post (x11 : List (RatL × RatL)) (x12 : Int) (x14 : RatL) (x15 : RatL × RatL) (x16 : RatL × RatL) : ((Unit) ⊕ (Bool)) → Ex → St → Prop
 | .inl o, x, s => x = .out 0 ∧ s = ⟨[], []⟩
 | .inr o, x, s => x = .ret ∧ fin46  o x s

def f46_l0_b (x11 : List (RatL × RatL)) (x12 : Int) (x14 : RatL) (x15 : RatL × RatL) (x16 : RatL × RatL) (again : Int → Option ((Unit) ⊕ (Bool))) : Int → Option ((Unit) ⊕ (Bool))
 | x13 =>
 (bif (decide (x13 < x12)) then
 gd (0 ≤ x13) <|
 gd (x13 < ((List.length x11 : Nat) : Int)) <|
 gd (0 ≤ (Int.tmod (wrapI .i64 (x13 + (1 : Int))) (4 : Int))) <|
 gd ((Int.tmod (wrapI .i64 (x13 + (1 : Int))) (4 : Int)) < ((List.length x11 : Nat) : Int)) <|
 (F63 x15 x16 (List.getD x11 (toN x13) (((false, ([] : List Int)), (false, ([] : List Int))), ((false, ([] : List Int)), (false, ([] : List Int))))) (List.getD x11 (toN (Int.tmod (wrapI .i64 (x13 + (1 : Int))) (4 : Int))) (((false, ([] : List Int)), (false, ([] : List Int))), ((false, ([] : List Int)), (false, ([] : List Int)))))).bind fun y19 =>
 (F62 y19 x14).bind fun y20 =>
 (bif (decide (y20 < (0 : Int))) then
 some (.inr true)
 else
 again (wrapI .i64 (x13 + (1 : Int))))
 else
 some (.inl ()))

def f46_l0 (x11 : List (RatL × RatL)) (x12 : Int) (x14 : RatL) (x15 : RatL × RatL) (x16 : RatL × RatL) : Nat → Int → Option ((Unit) ⊕ (Bool)) := loopF (f46_l0_b x11 x12 x14 x15 x16)

theorem f46_l0_ok (x11 : List (RatL × RatL)) (x12 : Int) (x14 : RatL) (x15 : RatL × RatL) (x16 : RatL × RatL) (k : Nat) (x13 : Int) {out : ((Unit) ⊕ (Bool))} (h : f46_l0 x11 x12 x14 x15 x16 k x13 = some out) : Run Pg 82 (bk1 (sq2 (sq1 (sq2 (sq2 (sq2 (sq2 (sq2 (sq2 (sq2 c_46)))))))))) ⟨[(9, .ptr 602 0), (10, .ptr 810 0), (11, .ptr 811 0), (12, .d t104 x11), (61, .d t104 x11), (62, .d t2 x12), (63, .d t2 x13)], [(602, bx t86 x14), (810, bx t101 x15), (811, bx t101 x16)]⟩ (f46_l0_post x11 x12 x14 x15 x16 out) := by
 refine Run.loopN (by kernel_rfl) (fun m s => ∃ x13, s = ⟨[(9, .ptr 602 0), (10, .ptr 810 0), (11, .ptr 811 0), (12, .d t104 x11), (61, .d t104 x11), (62, .d t2 x12), (63, .d t2 x13)], [(602, bx t86 x14), (810, bx t101 x15), (811, bx t101 x16)]⟩ ∧ f46_l0 x11 x12 x14 x15 x16 m x13 = some out) ?_ k ⟨x13,  rfl, h⟩
 rintro m s ⟨x13,  rfl, h⟩
 cases m with
 | zero => cases h
 | succ m =>
 replace h : f46_l0_b x11 x12 x14 x15 x16 (f46_l0 x11 x12 x14 x15 x16 m) x13 = some out := h
 unfold f46_l0_b at h
 refine qN [] 1100 ⟨[(9, .ptr 602 0), (10, .ptr 810 0), (11, .ptr 811 0), (12, .d t104 x11), (61, .d t104 x11), (62, .d t2 x12), (63, .d t2 x13), (64, .d t4 (decide (x13 < x12)))], [(602, bx t86 x14), (810, bx t101 x15), (811, bx t101 x16)]⟩ aN ?_
 refine Run.sq ?_
 refine Run.cd (decide (x13 < x12)) (fun hb => ?_) (fun hb => ?_)
 ·replace h := bif_t h hb
  refine Run.sk ?_
  show Run Pg 82 _ _ _
  refine Run.sq ?_
  refine Run.bl 1 ?_
  obtain ⟨g_0, h⟩ := gd_elim h
  obtain ⟨g_1, h⟩ := gd_elim h
  refine qN [] 1200 ⟨[(9, .ptr 602 0), (10, .ptr 810 0), (11, .ptr 811 0), (12, .d t104 x11), (13, .d t2 x13), (14, .ptr 1203 0), (61, .d t104 x11), (62, .d t2 x12), (63, .d t2 x13)], [(602, bx t86 x14), (810, bx t101 x15), (811, bx t101 x16), (1203, bx t101 (List.getD x11 (toN x13) (((false, ([] : List Int)), (false, ([] : List Int))), ((false, ([] : List Int)), (false, ([] : List Int))))))]⟩ (aC g_0 (aC g_1 aN)) ?_
  obtain ⟨g_1, h⟩ := gd_elim h
  obtain ⟨g_2, h⟩ := gd_elim h
  obtain ⟨y19, h_y19, h⟩ := bnd_elim h
  obtain ⟨y20, h_y20, h⟩ := bnd_elim h
  refine qN [(9, .call (.d t86 y19)), (11, .call (.d t2 y20))] 1300 ⟨[(9, .ptr 602 0), (10, .ptr 810 0), (11, .ptr 811 0), (12, .d t104 x11), (61, .d t104 x11), (62, .d t2 x12), (63, .d t2 x13), (80, .d t4 (decide (y20 < (0 : Int))))], [(602, bx t86 x14), (810, bx t101 x15), (811, bx t101 x16)]⟩ (aC (show ((4 : Int) ≠ 0) from (by decide)) (aC g_1 (aC g_2 (aC (c63 h_y19) (aC (c62 h_y20) aN))))) ?_
  refine Run.cd (decide (y20 < (0 : Int))) (fun hb => ?_) (fun hb => ?_)
  ·replace h := bif_t h hb
   refine qN [] 1400 ⟨[(8, .d t4 true)], []⟩ aN ?_
   refine Run.rt ?_
   obtain rfl := sI h
   exact ⟨rfl, [(.d t4 true)], by kernel_rfl, by kernel_rfl⟩
  ·replace h := bif_f h hb
   refine Run.sk ?_
   show Run Pg 82 _ _ _
   refine qE [] 1500 ⟨[(9, .ptr 602 0), (10, .ptr 810 0), (11, .ptr 811 0), (12, .d t104 x11), (61, .d t104 x11), (62, .d t2 x12), (63, .d t2 (wrapI .i64 (x13 + (1 : Int))))], [(602, bx t86 x14), (810, bx t101 x15), (811, bx t101 x16)]⟩ aN ?_
   exact ⟨m, Nat.lt_succ_self m, _, rfl, h⟩
 ·replace h := bif_f h hb
  refine qK ⟨[], []⟩ ?_
  refine Run.ex 0 ?_
  obtain rfl := sI h
  exact ⟨rfl, by kernel_rfl⟩

def F46 (a0 : Int × Int × Int × Int × Int) (a1 : Int × Int) (a2 : Int × Int) (a3 : Int) : Option (Bool) :=
 (bif (decide (a3 ≤ (0 : Int))) then
 some false
 else
 (F58 a0 a1).bind fun y1 =>
 (bif y1 then
 some true
 else
 (F58 a0 a2).bind fun y2 =>
 (bif y2 then
 some true
 else
 (F59 a3).bind fun y3 =>
 (F60 y3 y3).bind fun y4 =>
 (F61 a1.1 a1.2).bind fun y5 =>
 (F61 a2.1 a2.2).bind fun y6 =>
 (F61 a0.1 a0.2.1).bind fun y7 =>
 (F61 a0.2.2.1 a0.2.1).bind fun y8 =>
 (F61 a0.2.2.1 a0.2.2.2.1).bind fun y9 =>
 (F61 a0.1 a0.2.2.2.1).bind fun y10 =>
 ((f46_l0 ([y7, y8, y9, y10] : List (RatL × RatL)) (ofN (List.length ([y7, y8, y9, y10] : List (RatL × RatL)))) y4 y5 y6 (2 + List.length ([y7, y8, y9, y10] : List (RatL × RatL))) (0 : Int)).bind fun o21 => match o21 with
 | .inl o22 =>
 some false
 | .inr o23 =>
 some o23))))

theorem c46 {a0 : Int × Int × Int × Int × Int} {a1 : Int × Int} {a2 : Int × Int} {a3 : Int} {r : Bool} (h : F46 a0 a1 a2 a3 = some r) : CallPure Pg 46 [(.d t33 a0), (.d t25 a1), (.d t25 a2), (.d t2 a3)] (.d t4 r) := by
 refine qC c_46 82 [.tmp 8] [4] Go.Proofs.Tryz.func46 ?_
 show Run Pg 82 c_46 ⟨[(0, .d t33 a0), (1, .d t25 a1), (2, .d t25 a2), (3, .d t2 a3)], []⟩ (fin46 r)
 unfold F46 at h
 refine qN [] 100 ⟨[(3, .d t2 a3), (4, .ptr 100 0), (5, .ptr 101 0), (6, .ptr 102 0)], [(100, bx t33 a0), (101, bx t25 a1), (102, bx t25 a2)]⟩ aN ?_
 refine Run.sq ?_
 refine qN [] 200 ⟨[(3, .d t2 a3), (4, .ptr 100 0), (5, .ptr 101 0), (6, .ptr 102 0), (16, .d t4 (decide (a3 ≤ (0 : Int))))], [(100, bx t33 a0), (101, bx t25 a1), (102, bx t25 a2)]⟩ aN ?_
 refine Run.cd (decide (a3 ≤ (0 : Int))) (fun hb => ?_) (fun hb => ?_)
 ·replace h := bif_t h hb
  refine qN [] 300 ⟨[(8, .d t4 false)], []⟩ aN ?_
  refine Run.rt ?_
  obtain rfl := sI h
  exact qR [(.d t4 false)]
 ·replace h := bif_f h hb
  refine Run.sk ?_
  show Run Pg 82 _ _ _
  refine Run.sq ?_
  obtain ⟨y1, h_y1, h⟩ := bnd_elim h
  rcases bif_elim h with ⟨hb1, h⟩ | ⟨hb1, h⟩
  ·refine qN [(2, .call (.d t4 y1)), (3, .b true)] 400 ⟨[(3, .d t2 a3), (4, .ptr 100 0), (5, .ptr 101 0), (6, .ptr 102 0), (24, .d t4 true)], [(100, bx t33 a0), (101, bx t25 a1), (102, bx t25 a2)]⟩ (aC (c58 h_y1) (aC hb1 aN)) ?_
   refine Run.cd true (fun hb => ?_) (fun hb => (by cases hb))
   refine qN [] 500 ⟨[(8, .d t4 true)], []⟩ aN ?_
   refine Run.rt ?_
   obtain rfl := sI h
   exact qR [(.d t4 true)]
  ·obtain ⟨y2, h_y2, h⟩ := bnd_elim h
   refine qN [(2, .call (.d t4 y1)), (3, .b false), (6, .call (.d t4 y2))] 400 ⟨[(3, .d t2 a3), (4, .ptr 100 0), (5, .ptr 101 0), (6, .ptr 102 0), (24, .d t4 y2)], [(100, bx t33 a0), (101, bx t25 a1), (102, bx t25 a2)]⟩ (aC (c58 h_y1) (aC hb1 (aC (c58 h_y2) aN))) ?_
   refine Run.cd y2 (fun hb => ?_) (fun hb => ?_)
   ·replace h := bif_t h hb
    refine qN [] 500 ⟨[(8, .d t4 true)], []⟩ aN ?_
    refine Run.rt ?_
    obtain rfl := sI h
    exact qR [(.d t4 true)]
   ·replace h := bif_f h hb
    refine Run.sk ?_
    show Run Pg 82 _ _ _
    obtain ⟨y3, h_y3, h⟩ := bnd_elim h
    refine qN [(1, .call (.d t86 y3))] 600 ⟨[(4, .ptr 100 0), (5, .ptr 101 0), (6, .ptr 102 0), (9, .ptr 602 0)], [(100, bx t33 a0), (101, bx t25 a1), (102, bx t25 a2), (602, bx t86 y3)]⟩ (aC (c59 h_y3) aN) ?_
    obtain ⟨y4, h_y4, h⟩ := bnd_elim h
    refine qN [(2, .call (.d t86 y4))] 700 ⟨[(4, .ptr 100 0), (5, .ptr 101 0), (6, .ptr 102 0), (9, .ptr 602 0)], [(100, bx t33 a0), (101, bx t25 a1), (102, bx t25 a2), (602, bx t86 y4)]⟩ (aC (c60 h_y4) aN) ?_
    obtain ⟨y5, h_y5, h⟩ := bnd_elim h
    obtain ⟨y6, h_y6, h⟩ := bnd_elim h
    refine qN [(4, .call (.d t101 y5)), (9, .call (.d t101 y6))] 800 ⟨[(4, .ptr 100 0), (9, .ptr 602 0), (10, .ptr 810 0), (11, .ptr 811 0)], [(100, bx t33 a0), (602, bx t86 y4), (810, bx t101 y5), (811, bx t101 y6)]⟩ (aC (c61 h_y5) (aC (c61 h_y6) aN)) ?_
    obtain ⟨y7, h_y7, h⟩ := bnd_elim h
    obtain ⟨y8, h_y8, h⟩ := bnd_elim h
    obtain ⟨y9, h_y9, h⟩ := bnd_elim h
    obtain ⟨y10, h_y10, h⟩ := bnd_elim h
    refine qN [(4, .call (.d t101 y7)), (9, .call (.d t101 y8)), (14, .call (.d t101 y9)), (19, .call (.d t101 y10))] 900 ⟨[(9, .ptr 602 0), (10, .ptr 810 0), (11, .ptr 811 0), (12, .d t104 ([y7, y8, y9, y10] : List (RatL × RatL)))], [(602, bx t86 y4), (810, bx t101 y5), (811, bx t101 y6)]⟩ (aC (c61 h_y7) (aC (c61 h_y8) (aC (c61 h_y9) (aC (c61 h_y10) aN)))) ?_
    refine Run.sq ?_
    refine qN [] 1000 ⟨[(9, .ptr 602 0), (10, .ptr 810 0), (11, .ptr 811 0), (12, .d t104 ([y7, y8, y9, y10] : List (RatL × RatL))), (61, .d t104 ([y7, y8, y9, y10] : List (RatL × RatL))), (62, .d t2 (ofN (List.length ([y7, y8, y9, y10] : List (RatL × RatL))))), (63, .d t2 (0 : Int))], [(602, bx t86 y4), (810, bx t101 y5), (811, bx t101 y6)]⟩ aN ?_
    refine Run.bl 0 ?_
    obtain ⟨o21, h_o21, h⟩ := bnd_elim h
    refine Run.mono (f46_l0_ok ([y7, y8, y9, y10] : List (RatL × RatL)) (ofN (List.length ([y7, y8, y9, y10] : List (RatL × RatL)))) y4 y5 y6 _ (0 : Int) h_o21) ?_
    rcases o21 with o22 | o23
    ·rintro _ _ ⟨rfl, rfl⟩
     show Run Pg 82 _ _ _
     refine qN [] 1600 ⟨[(8, .d t4 false)], []⟩ aN ?_
     refine Run.rt ?_
     obtain rfl := sI h
     exact qR [(.d t4 false)]
    ·rintro _ s ⟨rfl, hr⟩
     obtain rfl := sI h
     exact hr

/-! ## f21 -/

noncomputable def c_21 : Code := body0 Go.Proofs.Tryz.f21

def fin21 (r : Int × Bool) : Ex → St → Prop := endK X0 [.tmp 8, .tmp 9] [2, 4] (.tup (.vcons (.d t2 r.1) (.vcons (.d t4 r.2) .vnil)))

def f21_c1_post (x22 : Int) (x23 : Int) (x24 : Bool) (x25 : List (Int × Int × Int × Int × Int)) (x26 : Int) (x27 : Int) (x28 : Bool) (x29 : Int × Int) (x30 : Int × Int) (x31 : Int × Int × Int × Int × Int) : (Int × Bool) → Ex → St → Prop
 | o, x, s => x = .nrm ∧ s = ⟨[(3, .d t2 x22), (5, .ptr 101 0), (6, .ptr 102 0), (10, .d t2 o.1), (11, .d t4 o.2), (15, .d t22 x25), (16, .d t2 x26), (17, .d t2 x27)], [(101, bx t25 x29), (102, bx t25 x30)]⟩

def f21_c1 (x23 : Int) (x24 : Bool) (x28 : Bool) (x31 : Int × Int × Int × Int × Int) : Option (Int × Bool) :=
 (bif x28 then
 some (x31.2.2.2.2, true)
 else
 some (x23, x24))

theorem f21_c1_ok (x22 : Int) (x23 : Int) (x24 : Bool) (x25 : List (Int × Int × Int × Int × Int)) (x26 : Int) (x27 : Int) (x28 : Bool) (x29 : Int × Int) (x30 : Int × Int) (x31 : Int × Int × Int × Int × Int) {out : (Int × Bool)} (h : f21_c1 x23 x24 x28 x31 = some out) : Run Pg 41 (sq2 (sq2 (bk1 (sq1 (sq2 (sq2 (lp1 (bk1 (sq2 (sq1 (sq2 (sq2 c_21)))))))))))) ⟨[(3, .d t2 x22), (5, .ptr 101 0), (6, .ptr 102 0), (10, .d t2 x23), (11, .d t4 x24), (13, .ptr 502 0), (15, .d t22 x25), (16, .d t2 x26), (17, .d t2 x27), (35, .d t4 x28)], [(101, bx t25 x29), (102, bx t25 x30), (502, bx t33 x31)]⟩ (f21_c1_post x22 x23 x24 x25 x26 x27 x28 x29 x30 x31 out) := by
 unfold f21_c1 at h
 refine Run.cd x28 (fun hb => ?_) (fun hb => ?_)
 ·replace h := bif_t h hb
  refine qE [] 700 ⟨[(3, .d t2 x22), (5, .ptr 101 0), (6, .ptr 102 0), (10, .d t2 x31.2.2.2.2), (11, .d t4 true), (15, .d t22 x25), (16, .d t2 x26), (17, .d t2 x27)], [(101, bx t25 x29), (102, bx t25 x30)]⟩ aN ?_
  obtain rfl := sI h
  exact ⟨rfl, by kernel_rfl⟩
 ·replace h := bif_f h hb
  refine qK ⟨[(3, .d t2 x22), (5, .ptr 101 0), (6, .ptr 102 0), (10, .d t2 x23), (11, .d t4 x24), (15, .d t22 x25), (16, .d t2 x26), (17, .d t2 x27)], [(101, bx t25 x29), (102, bx t25 x30)]⟩ ?_
  refine Run.sk ?_
  obtain rfl := sI h
  exact ⟨rfl, by kernel_rfl⟩

def f21_l0_post (x1 : Int) (x4 : List (Int × Int × Int × Int × Int)) (x5 : Int) (x7 : Int × Int) (x8 : Int × Int) : (Int × Bool) → Ex → St → Prop
 | o, x, s => x = .out 0 ∧ s = ⟨[(10, .d t2 o.1), (11, .d t4 o.2)], []⟩

def f21_l0_b (x1 : Int) (x4 : List (Int × Int × Int × Int × Int)) (x5 : Int) (x7 : Int × Int) (x8 : Int × Int) (again : Int × Bool × Int → Option (Int × Bool)) : Int × Bool × Int → Option (Int × Bool)
 | (x2, x3, x6) =>
 (bif (decide (x6 < x5)) then
 gd (0 ≤ x6) <|
 gd (x6 < ((List.length x4 : Nat) : Int)) <|
 (F46 (List.getD x4 (toN x6) ((0 : Int), (0 : Int), (0 : Int), (0 : Int), (0 : Int))) x7 x8 x1).bind fun y21 =>
 (bif y21 then
 (bif (!x3) then
 again ((List.getD x4 (toN x6) ((0 : Int), (0 : Int), (0 : Int), (0 : Int), (0 : Int))).2.2.2.2, true, (wrapI .i64 (x6 + (1 : Int))))
 else
 ((f21_c1 x2 x3 (decide (x2 < (List.getD x4 (toN x6) ((0 : Int), (0 : Int), (0 : Int), (0 : Int), (0 : Int))).2.2.2.2)) (List.getD x4 (toN x6) ((0 : Int), (0 : Int), (0 : Int), (0 : Int), (0 : Int)))).bind fun o32 =>
 again (o32.1, o32.2, (wrapI .i64 (x6 + (1 : Int))))))
 else
 again (x2, x3, (wrapI .i64 (x6 + (1 : Int)))))
 else
 some (x2, x3))

def f21_l0 (x1 : Int) (x4 : List (Int × Int × Int × Int × Int)) (x5 : Int) (x7 : Int × Int) (x8 : Int × Int) : Nat → Int × Bool × Int → Option (Int × Bool) := loopF (f21_l0_b x1 x4 x5 x7 x8)

theorem f21_l0_ok (x1 : Int) (x4 : List (Int × Int × Int × Int × Int)) (x5 : Int) (x7 : Int × Int) (x8 : Int × Int) (k : Nat) (x2 : Int) (x3 : Bool) (x6 : Int) {out : (Int × Bool)} (h : f21_l0 x1 x4 x5 x7 x8 k (x2, x3, x6) = some out) : Run Pg 41 (bk1 (sq2 (sq1 (sq2 (sq2 c_21))))) ⟨[(3, .d t2 x1), (5, .ptr 101 0), (6, .ptr 102 0), (10, .d t2 x2), (11, .d t4 x3), (15, .d t22 x4), (16, .d t2 x5), (17, .d t2 x6)], [(101, bx t25 x7), (102, bx t25 x8)]⟩ (f21_l0_post x1 x4 x5 x7 x8 out) := by
 refine Run.loopN (by kernel_rfl) (fun m s => ∃ x2 x3 x6, s = ⟨[(3, .d t2 x1), (5, .ptr 101 0), (6, .ptr 102 0), (10, .d t2 x2), (11, .d t4 x3), (15, .d t22 x4), (16, .d t2 x5), (17, .d t2 x6)], [(101, bx t25 x7), (102, bx t25 x8)]⟩ ∧ f21_l0 x1 x4 x5 x7 x8 m (x2, x3, x6) = some out) ?_ k ⟨x2, x3, x6,  rfl, h⟩
 rintro m s ⟨x2, x3, x6,  rfl, h⟩
 cases m with
 | zero => cases h
 | succ m =>
 replace h : f21_l0_b x1 x4 x5 x7 x8 (f21_l0 x1 x4 x5 x7 x8 m) (x2, x3, x6) = some out := h
 unfold f21_l0_b at h
 refine qN [] 400 ⟨[(3, .d t2 x1), (5, .ptr 101 0), (6, .ptr 102 0), (10, .d t2 x2), (11, .d t4 x3), (15, .d t22 x4), (16, .d t2 x5), (17, .d t2 x6), (18, .d t4 (decide (x6 < x5)))], [(101, bx t25 x7), (102, bx t25 x8)]⟩ aN ?_
 refine Run.sq ?_
 refine Run.cd (decide (x6 < x5)) (fun hb => ?_) (fun hb => ?_)
 ·replace h := bif_t h hb
  refine Run.sk ?_
  show Run Pg 41 _ _ _
  refine Run.sq ?_
  refine Run.bl 1 ?_
  obtain ⟨g_0, h⟩ := gd_elim h
  obtain ⟨g_1, h⟩ := gd_elim h
  refine qN [] 500 ⟨[(3, .d t2 x1), (5, .ptr 101 0), (6, .ptr 102 0), (10, .d t2 x2), (11, .d t4 x3), (13, .ptr 502 0), (15, .d t22 x4), (16, .d t2 x5), (17, .d t2 x6)], [(101, bx t25 x7), (102, bx t25 x8), (502, bx t33 (List.getD x4 (toN x6) ((0 : Int), (0 : Int), (0 : Int), (0 : Int), (0 : Int))))]⟩ (aC g_0 (aC g_1 aN)) ?_
  obtain ⟨y21, h_y21, h⟩ := bnd_elim h
  rcases bif_elim h with ⟨hb1, h⟩ | ⟨hb1, h⟩
  ·rcases bif_elim h with ⟨hb2, h⟩ | ⟨hb2, h⟩
   ·refine qN [(4, .call (.d t4 y21)), (5, .b true), (8, .b true)] 600 ⟨[(3, .d t2 x1), (5, .ptr 101 0), (6, .ptr 102 0), (10, .d t2 x2), (11, .d t4 x3), (13, .ptr 502 0), (15, .d t22 x4), (16, .d t2 x5), (17, .d t2 x6), (35, .d t4 true)], [(101, bx t25 x7), (102, bx t25 x8), (502, bx t33 (List.getD x4 (toN x6) ((0 : Int), (0 : Int), (0 : Int), (0 : Int), (0 : Int))))]⟩ (aC (c46 h_y21) (aC hb1 (aC hb2 aN))) ?_
    refine Run.cd true (fun hb => ?_) (fun hb => (by cases hb))
    refine qE [] 700 ⟨[(3, .d t2 x1), (5, .ptr 101 0), (6, .ptr 102 0), (10, .d t2 (List.getD x4 (toN x6) ((0 : Int), (0 : Int), (0 : Int), (0 : Int), (0 : Int))).2.2.2.2), (11, .d t4 true), (15, .d t22 x4), (16, .d t2 x5), (17, .d t2 x6)], [(101, bx t25 x7), (102, bx t25 x8)]⟩ aN ?_
    show Run Pg 41 _ _ _
    refine qE [] 800 ⟨[(3, .d t2 x1), (5, .ptr 101 0), (6, .ptr 102 0), (10, .d t2 (List.getD x4 (toN x6) ((0 : Int), (0 : Int), (0 : Int), (0 : Int), (0 : Int))).2.2.2.2), (11, .d t4 true), (15, .d t22 x4), (16, .d t2 x5), (17, .d t2 (wrapI .i64 (x6 + (1 : Int))))], [(101, bx t25 x7), (102, bx t25 x8)]⟩ aN ?_
    exact ⟨m, Nat.lt_succ_self m, _, _, _, rfl, h⟩
   ·refine qN [(4, .call (.d t4 y21)), (5, .b true), (8, .b false)] 600 ⟨[(3, .d t2 x1), (5, .ptr 101 0), (6, .ptr 102 0), (10, .d t2 x2), (11, .d t4 x3), (13, .ptr 502 0), (15, .d t22 x4), (16, .d t2 x5), (17, .d t2 x6), (35, .d t4 (decide (x2 < (List.getD x4 (toN x6) ((0 : Int), (0 : Int), (0 : Int), (0 : Int), (0 : Int))).2.2.2.2)))], [(101, bx t25 x7), (102, bx t25 x8), (502, bx t33 (List.getD x4 (toN x6) ((0 : Int), (0 : Int), (0 : Int), (0 : Int), (0 : Int))))]⟩ (aC (c46 h_y21) (aC hb1 (aC hb2 aN))) ?_
    obtain ⟨o32, h_o32, h⟩ := bnd_elim h
    refine Run.mono (f21_c1_ok x1 x2 x3 x4 x5 x6 (decide (x2 < (List.getD x4 (toN x6) ((0 : Int), (0 : Int), (0 : Int), (0 : Int), (0 : Int))).2.2.2.2)) x7 x8 (List.getD x4 (toN x6) ((0 : Int), (0 : Int), (0 : Int), (0 : Int), (0 : Int))) h_o32) ?_
    rintro _ _ ⟨rfl, rfl⟩
    show Run Pg 41 _ _ _
    refine qE [] 800 ⟨[(3, .d t2 x1), (5, .ptr 101 0), (6, .ptr 102 0), (10, .d t2 o32.1), (11, .d t4 o32.2), (15, .d t22 x4), (16, .d t2 x5), (17, .d t2 (wrapI .i64 (x6 + (1 : Int))))], [(101, bx t25 x7), (102, bx t25 x8)]⟩ aN ?_
    exact ⟨m, Nat.lt_succ_self m, _, _, _, rfl, h⟩
  ·refine qN [(4, .call (.d t4 y21)), (5, .b false)] 600 ⟨[(3, .d t2 x1), (5, .ptr 101 0), (6, .ptr 102 0), (10, .d t2 x2), (11, .d t4 x3), (13, .ptr 502 0), (15, .d t22 x4), (16, .d t2 x5), (17, .d t2 x6), (35, .d t4 false)], [(101, bx t25 x7), (102, bx t25 x8), (502, bx t33 (List.getD x4 (toN x6) ((0 : Int), (0 : Int), (0 : Int), (0 : Int), (0 : Int))))]⟩ (aC (c46 h_y21) (aC hb1 aN)) ?_
   refine Run.cd false (fun hb => (by cases hb)) (fun hb => ?_)
   refine Run.sk ?_
   show Run Pg 41 _ _ _
   refine qE [] 800 ⟨[(3, .d t2 x1), (5, .ptr 101 0), (6, .ptr 102 0), (10, .d t2 x2), (11, .d t4 x3), (15, .d t22 x4), (16, .d t2 x5), (17, .d t2 (wrapI .i64 (x6 + (1 : Int))))], [(101, bx t25 x7), (102, bx t25 x8)]⟩ aN ?_
   exact ⟨m, Nat.lt_succ_self m, _, _, _, rfl, h⟩
 ·replace h := bif_f h hb
  refine qK ⟨[(10, .d t2 x2), (11, .d t4 x3)], []⟩ ?_
  refine Run.ex 0 ?_
  obtain rfl := sI h
  exact ⟨rfl, by kernel_rfl⟩

def F21 (a0 : Int × Int × Int × Int × Int × Int × (List (Int × Int × Int × Int × Int)) × Int) (a1 : Int × Int) (a2 : Int × Int) (a3 : Int) : Option (Int × Bool) :=
 ((f21_l0 a3 a0.2.2.2.2.2.2.1 (ofN (List.length a0.2.2.2.2.2.2.1)) a1 a2 (2 + List.length a0.2.2.2.2.2.2.1) ((0 : Int), false, (0 : Int))).bind fun o33 =>
 some (o33.1, o33.2))

theorem c21 {a0 : Int × Int × Int × Int × Int × Int × (List (Int × Int × Int × Int × Int)) × Int} {a1 : Int × Int} {a2 : Int × Int} {a3 : Int} {r : Int × Bool} (h : F21 a0 a1 a2 a3 = some r) : CallPure Pg 21 [(.d t23 a0), (.d t25 a1), (.d t25 a2), (.d t2 a3)] (.tup (.vcons (.d t2 r.1) (.vcons (.d t4 r.2) .vnil))) := by
 refine qC c_21 41 [.tmp 8, .tmp 9] [2, 4] Go.Proofs.Tryz.func21 ?_
 show Run Pg 41 c_21 ⟨[(0, .d t23 a0), (1, .d t25 a1), (2, .d t25 a2), (3, .d t2 a3)], []⟩ (fin21 r)
 unfold F21 at h
 refine qN [] 100 ⟨[(3, .d t2 a3), (4, .ptr 100 0), (5, .ptr 101 0), (6, .ptr 102 0)], [(100, bx t23 a0), (101, bx t25 a1), (102, bx t25 a2)]⟩ aN ?_
 refine qN [] 200 ⟨[(3, .d t2 a3), (4, .ptr 100 0), (5, .ptr 101 0), (6, .ptr 102 0), (10, .d t2 (0 : Int)), (11, .d t4 false)], [(100, bx t23 a0), (101, bx t25 a1), (102, bx t25 a2)]⟩ aN ?_
 refine Run.sq ?_
 refine qN [] 300 ⟨[(3, .d t2 a3), (5, .ptr 101 0), (6, .ptr 102 0), (10, .d t2 (0 : Int)), (11, .d t4 false), (15, .d t22 a0.2.2.2.2.2.2.1), (16, .d t2 (ofN (List.length a0.2.2.2.2.2.2.1))), (17, .d t2 (0 : Int))], [(101, bx t25 a1), (102, bx t25 a2)]⟩ aN ?_
 refine Run.bl 0 ?_
 obtain ⟨o33, h_o33, h⟩ := bnd_elim h
 refine Run.mono (f21_l0_ok a3 a0.2.2.2.2.2.2.1 (ofN (List.length a0.2.2.2.2.2.2.1)) a1 a2 _ (0 : Int) false (0 : Int) h_o33) ?_
 rintro _ _ ⟨rfl, rfl⟩
 show Run Pg 41 _ _ _
 refine qN [] 900 ⟨[(8, .d t2 o33.1), (9, .d t4 o33.2)], []⟩ aN ?_
 refine Run.rt ?_
 obtain rfl := sI h
 exact qR [(.d t2 o33.1), (.d t4 o33.2)]

/-! ## f9 -/

noncomputable def c_9 : Code := body0 Go.Proofs.Tryz.f9

def fin9 (r : Int) : Ex → St → Prop := endK X0 [.tmp 8] [2] (.d t2 r)

def F9 (a0 : Int × Int × Int × Int × Int × Int × (List (Int × Int × Int × Int × Int)) × Int) (a1 : Int × Int) (a2 : Int × Int) (a3 : Int) : Option (Int) :=
 (F21 a0 a1 a2 a3).bind fun y1 =>
 some (wrapI .i64 ((1000 : Int) + (max2i (0 : Int) y1.1)))

theorem c9 {a0 : Int × Int × Int × Int × Int × Int × (List (Int × Int × Int × Int × Int)) × Int} {a1 : Int × Int} {a2 : Int × Int} {a3 : Int} {r : Int} (h : F9 a0 a1 a2 a3 = some r) : CallPure Pg 9 [(.d t23 a0), (.d t25 a1), (.d t25 a2), (.d t2 a3)] (.d t2 r) := by
 refine qC c_9 22 [.tmp 8] [2] Go.Proofs.Tryz.func9 ?_
 show Run Pg 22 c_9 ⟨[(0, .d t23 a0), (1, .d t25 a1), (2, .d t25 a2), (3, .d t2 a3)], []⟩ (fin9 r)
 unfold F9 at h
 refine qN [] 100 ⟨[(3, .d t2 a3), (4, .ptr 100 0), (5, .ptr 101 0), (6, .ptr 102 0)], [(100, bx t23 a0), (101, bx t25 a1), (102, bx t25 a2)]⟩ aN ?_
 obtain ⟨y1, h_y1, h⟩ := bnd_elim h
 refine qN [(4, .call (.tup (.vcons (.d t2 y1.1) (.vcons (.d t4 y1.2) .vnil))))] 200 ⟨[(9, .d t2 y1.1)], []⟩ (aC (c21 h_y1) aN) ?_
 refine qN [] 300 ⟨[(8, .d t2 (wrapI .i64 ((1000 : Int) + (max2i (0 : Int) y1.1))))], []⟩ aN ?_
 refine Run.rt ?_
 obtain rfl := sI h
 exact qR [(.d t2 (wrapI .i64 ((1000 : Int) + (max2i (0 : Int) y1.1))))]

/-! ## f18 -/

noncomputable def c_18 : Code := body0 Go.Proofs.Tryz.f18

def fin18 (r : Int) : Ex → St → Prop := endK X0 [.tmp 2] [2] (.d t2 r)

def f18_l0_post (x1 : List (Int × Int)) : (Int) → Ex → St → Prop
 | o, x, s => x = .out 0 ∧ s = ⟨[(3, .d t2 o)], []⟩

def f18_l0_b (x1 : List (Int × Int)) (again : Int × Int → Option (Int)) : Int × Int → Option (Int)
 | (x2, x3) =>
 (bif (decide (x3 < (ofN (List.length x1)))) then
 gd (0 ≤ (wrapI .i64 (x3 - (1 : Int)))) <|
 gd ((wrapI .i64 (x3 - (1 : Int))) < ((List.length x1 : Nat) : Int)) <|
 gd (0 ≤ x3) <|
 gd (x3 < ((List.length x1 : Nat) : Int)) <|
 (F39 (List.getD x1 (toN (wrapI .i64 (x3 - (1 : Int)))) ((0 : Int), (0 : Int))) (List.getD x1 (toN x3) ((0 : Int), (0 : Int)))).bind fun y5 =>
 again ((wrapI .i64 (x2 + y5)), (wrapI .i64 (x3 + (1 : Int))))
 else
 some x2)

def f18_l0 (x1 : List (Int × Int)) : Nat → Int × Int → Option (Int) := loopF (f18_l0_b x1)

theorem f18_l0_ok (x1 : List (Int × Int)) (k : Nat) (x2 : Int) (x3 : Int) {out : (Int)} (h : f18_l0 x1 k (x2, x3) = some out) : Run Pg 24 (bk1 (sq2 (sq1 (sq2 (sq2 c_18))))) ⟨[(0, .d t47 x1), (3, .d t2 x2), (4, .d t2 x3)], []⟩ (f18_l0_post x1 out) := by
 refine Run.loopN (by kernel_rfl) (fun m s => ∃ x2 x3, s = ⟨[(0, .d t47 x1), (3, .d t2 x2), (4, .d t2 x3)], []⟩ ∧ f18_l0 x1 m (x2, x3) = some out) ?_ k ⟨x2, x3,  rfl, h⟩
 rintro m s ⟨x2, x3,  rfl, h⟩
 cases m with
 | zero => cases h
 | succ m =>
 replace h : f18_l0_b x1 (f18_l0 x1 m) (x2, x3) = some out := h
 unfold f18_l0_b at h
 refine Run.sq ?_
 refine qN [] 400 ⟨[(0, .d t47 x1), (3, .d t2 x2), (4, .d t2 x3), (8, .d t4 (decide (x3 < (ofN (List.length x1)))))], []⟩ aN ?_
 refine Run.cd (decide (x3 < (ofN (List.length x1)))) (fun hb => ?_) (fun hb => ?_)
 ·replace h := bif_t h hb
  refine Run.sk ?_
  show Run Pg 24 _ _ _
  refine Run.sq ?_
  refine Run.bl 1 ?_
  obtain ⟨g_0, h⟩ := gd_elim h
  obtain ⟨g_1, h⟩ := gd_elim h
  obtain ⟨g_2, h⟩ := gd_elim h
  obtain ⟨g_3, h⟩ := gd_elim h
  obtain ⟨y5, h_y5, h⟩ := bnd_elim h
  refine qE [(10, .call (.d t2 y5))] 600 ⟨[(0, .d t47 x1), (3, .d t2 (wrapI .i64 (x2 + y5))), (4, .d t2 x3)], []⟩ (aC g_0 (aC g_1 (aC g_2 (aC g_3 (aC (c39 h_y5) aN))))) ?_
  show Run Pg 24 _ _ _
  refine qE [] 500 ⟨[(0, .d t47 x1), (3, .d t2 (wrapI .i64 (x2 + y5))), (4, .d t2 (wrapI .i64 (x3 + (1 : Int))))], []⟩ aN ?_
  exact ⟨m, Nat.lt_succ_self m, _, _, rfl, h⟩
 ·replace h := bif_f h hb
  refine qK ⟨[(3, .d t2 x2)], []⟩ ?_
  refine Run.ex 0 ?_
  obtain rfl := sI h
  exact ⟨rfl, by kernel_rfl⟩

def F18 (a0 : List (Int × Int)) : Option (Int) :=
 ((f18_l0 a0 (2 + List.length a0) ((0 : Int), (1 : Int))).bind fun o6 =>
 some o6)

theorem c18 {a0 : List (Int × Int)} {r : Int} (h : F18 a0 = some r) : CallPure Pg 18 [(.d t47 a0)] (.d t2 r) := by
 refine qC c_18 24 [.tmp 2] [2] Go.Proofs.Tryz.func18 ?_
 show Run Pg 24 c_18 ⟨[(0, .d t47 a0)], []⟩ (fin18 r)
 unfold F18 at h
 refine qN [] 100 ⟨[(0, .d t47 a0)], []⟩ aN ?_
 refine qN [] 200 ⟨[(0, .d t47 a0), (3, .d t2 (0 : Int))], []⟩ aN ?_
 refine Run.sq ?_
 refine qN [] 300 ⟨[(0, .d t47 a0), (3, .d t2 (0 : Int)), (4, .d t2 (1 : Int))], []⟩ aN ?_
 refine Run.bl 0 ?_
 obtain ⟨o6, h_o6, h⟩ := bnd_elim h
 refine Run.mono (f18_l0_ok a0 _ (0 : Int) (1 : Int) h_o6) ?_
 rintro _ _ ⟨rfl, rfl⟩
 show Run Pg 24 _ _ _
 refine qN [] 700 ⟨[(2, .d t2 o6)], []⟩ aN ?_
 refine Run.rt ?_
 obtain rfl := sI h
 exact qR [(.d t2 o6)]

/-! ## f5 -/

noncomputable def c_5 : Code := body0 Go.Proofs.Tryz.f5

def fin5 (r : Bool) : Ex → St → Prop := endK X0 [.tmp 0] [4] (.d t4 r)

def F5  : Option (Bool) :=
 (F15 ).bind fun y1 =>
 (F7 y1 (5000 : Int) (0 : Int)).bind fun y2 =>
 (F17 (0 : Int) (1000 : Int)).bind fun y3 =>
 (F17 (30000 : Int) (1000 : Int)).bind fun y4 =>
 (F16 y2 y3 y4).bind fun y5 =>
 (F17 (0 : Int) (0 : Int)).bind fun y6 =>
 (F17 (30000 : Int) (0 : Int)).bind fun y7 =>
 (F9 y1 y6 y7 (3000 : Int)).bind fun y8 =>
 (bif (y8 == (9000 : Int)) then
 (F17 (0 : Int) (9000 : Int)).bind fun y9 =>
 (F17 (30000 : Int) (9000 : Int)).bind fun y10 =>
 (F9 y1 y9 y10 (3000 : Int)).bind fun y11 =>
 (bif (y11 == (1000 : Int)) then
 (bif (y5.2 == (0 : Int)) then
 (F18 y5.1).bind fun y12 =>
 (bif (y12 == (30000 : Int)) then
 gd ((0 : Int) < ((List.length y1.2.2.2.2.2.2.1 : Nat) : Int)) <|
 (F17 (0 : Int) (1000 : Int)).bind fun y13 =>
 (F17 (30000 : Int) (1000 : Int)).bind fun y14 =>
 (F19 (List.getD y1.2.2.2.2.2.2.1 (toN (0 : Int)) ((0 : Int), (0 : Int), (0 : Int), (0 : Int), (0 : Int))) y13 y14).bind fun y15 =>
 some y15
 else
 some false)
 else
 some false)
 else
 some false)
 else
 some false)

theorem c5  {r : Bool} (h : F5  = some r) : CallPure Pg 5 [] (.d t4 r) := by
 refine qC c_5 43 [.tmp 0] [4] Go.Proofs.Tryz.func5 ?_
 show Run Pg 43 c_5 ⟨[], []⟩ (fin5 r)
 unfold F5 at h
 refine qN [] 100 ⟨[], []⟩ aN ?_
 obtain ⟨y1, h_y1, h⟩ := bnd_elim h
 refine qN [(0, .call (.d t23 y1))] 200 ⟨[(1, .ptr 201 0)], [(201, bx t23 y1)]⟩ (aC (c15 h_y1) aN) ?_
 obtain ⟨y2, h_y2, h⟩ := bnd_elim h
 obtain ⟨y3, h_y3, h⟩ := bnd_elim h
 obtain ⟨y4, h_y4, h⟩ := bnd_elim h
 obtain ⟨y5, h_y5, h⟩ := bnd_elim h
 refine qN [(1, .call (.d t22 y2)), (2, .call (.d t25 y3)), (3, .call (.d t25 y4)), (4, .call (.tup (.vcons (.d t47 y5.1) (.vcons (.d t2 y5.2) .vnil))))] 300 ⟨[(1, .ptr 201 0), (2, .d t47 y5.1), (3, .d t2 y5.2)], [(201, bx t23 y1)]⟩ (aC (c7 h_y2) (aC (c17 h_y3) (aC (c17 h_y4) (aC (c16 h_y5) aN)))) ?_
 obtain ⟨y6, h_y6, h⟩ := bnd_elim h
 obtain ⟨y7, h_y7, h⟩ := bnd_elim h
 obtain ⟨y8, h_y8, h⟩ := bnd_elim h
 rcases bif_elim h with ⟨hb3, h⟩ | ⟨hb3, h⟩
 ·obtain ⟨y9, h_y9, h⟩ := bnd_elim h
  obtain ⟨y10, h_y10, h⟩ := bnd_elim h
  obtain ⟨y11, h_y11, h⟩ := bnd_elim h
  rcases bif_elim h with ⟨hb7, h⟩ | ⟨hb7, h⟩
  ·rcases bif_elim h with ⟨hb8, h⟩ | ⟨hb8, h⟩
   ·obtain ⟨y12, h_y12, h⟩ := bnd_elim h
    rcases bif_elim h with ⟨hb10, h⟩ | ⟨hb10, h⟩
    ·obtain ⟨g_12, h⟩ := gd_elim h
     obtain ⟨y13, h_y13, h⟩ := bnd_elim h
     obtain ⟨y14, h_y14, h⟩ := bnd_elim h
     obtain ⟨y15, h_y15, h⟩ := bnd_elim h
     refine qN [(1, .call (.d t25 y6)), (2, .call (.d t25 y7)), (3, .call (.d t2 y8)), (5, .b true), (7, .call (.d t25 y9)), (8, .call (.d t25 y10)), (9, .call (.d t2 y11)), (12, .b true), (16, .b true), (18, .call (.d t2 y12)), (21, .b true), (26, .call (.d t25 y13)), (27, .call (.d t25 y14)), (28, .call (.d t4 y15))] 400 ⟨[(0, .d t4 y15)], []⟩ (aC (c17 h_y6) (aC (c17 h_y7) (aC (c9 h_y8) (aC hb3 (aC (c17 h_y9) (aC (c17 h_y10) (aC (c9 h_y11) (aC hb7 (aC hb8 (aC (c18 h_y12) (aC hb10 (aC (show (0 ≤ (0 : Int)) from (by decide)) (aC g_12 (aC (c17 h_y13) (aC (c17 h_y14) (aC (c19 h_y15) aN)))))))))))))))) ?_
     refine Run.rt ?_
     obtain rfl := sI h
     exact qR [(.d t4 y15)]
    ·refine qN [(1, .call (.d t25 y6)), (2, .call (.d t25 y7)), (3, .call (.d t2 y8)), (5, .b true), (7, .call (.d t25 y9)), (8, .call (.d t25 y10)), (9, .call (.d t2 y11)), (12, .b true), (16, .b true), (18, .call (.d t2 y12)), (21, .b false)] 400 ⟨[(0, .d t4 false)], []⟩ (aC (c17 h_y6) (aC (c17 h_y7) (aC (c9 h_y8) (aC hb3 (aC (c17 h_y9) (aC (c17 h_y10) (aC (c9 h_y11) (aC hb7 (aC hb8 (aC (c18 h_y12) (aC hb10 aN))))))))))) ?_
     refine Run.rt ?_
     obtain rfl := sI h
     exact qR [(.d t4 false)]
   ·refine qN [(1, .call (.d t25 y6)), (2, .call (.d t25 y7)), (3, .call (.d t2 y8)), (5, .b true), (7, .call (.d t25 y9)), (8, .call (.d t25 y10)), (9, .call (.d t2 y11)), (12, .b true), (16, .b false)] 400 ⟨[(0, .d t4 false)], []⟩ (aC (c17 h_y6) (aC (c17 h_y7) (aC (c9 h_y8) (aC hb3 (aC (c17 h_y9) (aC (c17 h_y10) (aC (c9 h_y11) (aC hb7 (aC hb8 aN))))))))) ?_
    refine Run.rt ?_
    obtain rfl := sI h
    exact qR [(.d t4 false)]
  ·refine qN [(1, .call (.d t25 y6)), (2, .call (.d t25 y7)), (3, .call (.d t2 y8)), (5, .b true), (7, .call (.d t25 y9)), (8, .call (.d t25 y10)), (9, .call (.d t2 y11)), (12, .b false)] 400 ⟨[(0, .d t4 false)], []⟩ (aC (c17 h_y6) (aC (c17 h_y7) (aC (c9 h_y8) (aC hb3 (aC (c17 h_y9) (aC (c17 h_y10) (aC (c9 h_y11) (aC hb7 aN)))))))) ?_
   refine Run.rt ?_
   obtain rfl := sI h
   exact qR [(.d t4 false)]
 ·refine qN [(1, .call (.d t25 y6)), (2, .call (.d t25 y7)), (3, .call (.d t2 y8)), (5, .b false)] 400 ⟨[(0, .d t4 false)], []⟩ (aC (c17 h_y6) (aC (c17 h_y7) (aC (c9 h_y8) (aC hb3 aN)))) ?_
  refine Run.rt ?_
  obtain rfl := sI h
  exact qR [(.d t4 false)]

/-! ## f11 -/

noncomputable def c_11 : Code := body0 Go.Proofs.Tryz.f11

def fin11 (r : Bool) : Ex → St → Prop := endK X0 [.tmp 2] [4] (.d t4 r)

def F11 (a0 : Int × Int × Int × Int × Int × Int × (List (Int × Int × Int × Int × Int)) × Int) : Option (Bool) :=
 some (decide ((ofN (List.length a0.2.2.2.2.2.2.1)) ≤ (6 : Int)))

theorem c11 {a0 : Int × Int × Int × Int × Int × Int × (List (Int × Int × Int × Int × Int)) × Int} {r : Bool} (h : F11 a0 = some r) : CallPure Pg 11 [(.d t23 a0)] (.d t4 r) := by
 refine qC c_11 7 [.tmp 2] [4] Go.Proofs.Tryz.func11 ?_
 show Run Pg 7 c_11 ⟨[(0, .d t23 a0)], []⟩ (fin11 r)
 unfold F11 at h
 refine qN [] 100 ⟨[(1, .ptr 100 0)], [(100, bx t23 a0)]⟩ aN ?_
 refine qN [] 200 ⟨[(2, .d t4 (decide ((ofN (List.length a0.2.2.2.2.2.2.1)) ≤ (6 : Int))))], []⟩ aN ?_
 refine Run.rt ?_
 obtain rfl := sI h
 exact qR [(.d t4 (decide ((ofN (List.length a0.2.2.2.2.2.2.1)) ≤ (6 : Int))))]

/-! ## f51 -/

noncomputable def c_51 : Code := body0 Go.Proofs.Tryz.f51

def fin51 (r : Bool) : Ex → St → Prop := endK X0 [.tmp 8] [4] (.d t4 r)

def F51 (a0 : Int) (a1 : Int) (a2 : Int) (a3 : Int) : Option (Bool) :=
 (bif (decide (a0 < a2)) then
 (bif (decide (a1 < a3)) then
 (bif (decide ((-10000000 : Int) ≤ a0)) then
 (bif (decide ((-10000000 : Int) ≤ a1)) then
 (bif (decide (a2 ≤ (10000000 : Int))) then
 some (decide (a3 ≤ (10000000 : Int)))
 else
 some false)
 else
 some false)
 else
 some false)
 else
 some false)
 else
 some false)

theorem c51 {a0 : Int} {a1 : Int} {a2 : Int} {a3 : Int} {r : Bool} (h : F51 a0 a1 a2 a3 = some r) : CallPure Pg 51 [(.d t2 a0), (.d t2 a1), (.d t2 a2), (.d t2 a3)] (.d t4 r) := by
 refine qC c_51 33 [.tmp 8] [4] Go.Proofs.Tryz.func51 ?_
 show Run Pg 33 c_51 ⟨[(0, .d t2 a0), (1, .d t2 a1), (2, .d t2 a2), (3, .d t2 a3)], []⟩ (fin51 r)
 unfold F51 at h
 refine qN [] 100 ⟨[(0, .d t2 a0), (1, .d t2 a1), (2, .d t2 a2), (3, .d t2 a3)], []⟩ aN ?_
 rcases bif_elim h with ⟨hb0, h⟩ | ⟨hb0, h⟩
 ·rcases bif_elim h with ⟨hb1, h⟩ | ⟨hb1, h⟩
  ·rcases bif_elim h with ⟨hb2, h⟩ | ⟨hb2, h⟩
   ·rcases bif_elim h with ⟨hb3, h⟩ | ⟨hb3, h⟩
    ·rcases bif_elim h with ⟨hb4, h⟩ | ⟨hb4, h⟩
     ·refine qN [(3, .b true), (8, .b true), (12, .b true), (16, .b true), (20, .b true)] 200 ⟨[(8, .d t4 (decide (a3 ≤ (10000000 : Int))))], []⟩ (aC hb0 (aC hb1 (aC hb2 (aC hb3 (aC hb4 aN))))) ?_
      refine Run.rt ?_
      obtain rfl := sI h
      exact qR [(.d t4 (decide (a3 ≤ (10000000 : Int))))]
     ·refine qN [(3, .b true), (8, .b true), (12, .b true), (16, .b true), (20, .b false)] 200 ⟨[(8, .d t4 false)], []⟩ (aC hb0 (aC hb1 (aC hb2 (aC hb3 (aC hb4 aN))))) ?_
      refine Run.rt ?_
      obtain rfl := sI h
      exact qR [(.d t4 false)]
    ·refine qN [(3, .b true), (8, .b true), (12, .b true), (16, .b false)] 200 ⟨[(8, .d t4 false)], []⟩ (aC hb0 (aC hb1 (aC hb2 (aC hb3 aN)))) ?_
     refine Run.rt ?_
     obtain rfl := sI h
     exact qR [(.d t4 false)]
   ·refine qN [(3, .b true), (8, .b true), (12, .b false)] 200 ⟨[(8, .d t4 false)], []⟩ (aC hb0 (aC hb1 (aC hb2 aN))) ?_
    refine Run.rt ?_
    obtain rfl := sI h
    exact qR [(.d t4 false)]
  ·refine qN [(3, .b true), (8, .b false)] 200 ⟨[(8, .d t4 false)], []⟩ (aC hb0 (aC hb1 aN)) ?_
   refine Run.rt ?_
   obtain rfl := sI h
   exact qR [(.d t4 false)]
 ·refine qN [(3, .b false)] 200 ⟨[(8, .d t4 false)], []⟩ (aC hb0 aN) ?_
  refine Run.rt ?_
  obtain rfl := sI h
  exact qR [(.d t4 false)]

/-! ## f52 -/

noncomputable def c_52 : Code := body0 Go.Proofs.Tryz.f52

def fin52 (r : Bool) : Ex → St → Prop := endK X0 [.tmp 4] [4] (.d t4 r)

def F52 (a0 : Int) (a1 : Int) : Option (Bool) :=
 (bif (decide (a1 ≤ a0)) then
 some (decide (a0 ≤ (10000000 : Int)))
 else
 some false)

theorem c52 {a0 : Int} {a1 : Int} {r : Bool} (h : F52 a0 a1 = some r) : CallPure Pg 52 [(.d t2 a0), (.d t2 a1)] (.d t4 r) := by
 refine qC c_52 12 [.tmp 4] [4] Go.Proofs.Tryz.func52 ?_
 show Run Pg 12 c_52 ⟨[(0, .d t2 a0), (1, .d t2 a1)], []⟩ (fin52 r)
 unfold F52 at h
 refine qN [] 100 ⟨[(0, .d t2 a0), (1, .d t2 a1)], []⟩ aN ?_
 rcases bif_elim h with ⟨hb0, h⟩ | ⟨hb0, h⟩
 ·refine qN [(3, .b true)] 200 ⟨[(4, .d t4 (decide (a0 ≤ (10000000 : Int))))], []⟩ (aC hb0 aN) ?_
  refine Run.rt ?_
  obtain rfl := sI h
  exact qR [(.d t4 (decide (a0 ≤ (10000000 : Int))))]
 ·refine qN [(3, .b false)] 200 ⟨[(4, .d t4 false)], []⟩ (aC hb0 aN) ?_
  refine Run.rt ?_
  obtain rfl := sI h
  exact qR [(.d t4 false)]

/-! ## f53 -/

noncomputable def c_53 : Code := body0 Go.Proofs.Tryz.f53

def fin53 (r : Int) : Ex → St → Prop := endK X0 [.tmp 2] [2] (.d t2 r)

def F53 (a0 : Int × Int × Int × Int × Int × Int × (List (Int × Int × Int × Int × Int)) × Int) : Option (Int) :=
 some (wrapI .i64 ((wrapI .i64 (0 - a0.2.2.2.2.1)) - a0.2.2.2.2.2.1))

theorem c53 {a0 : Int × Int × Int × Int × Int × Int × (List (Int × Int × Int × Int × Int)) × Int} {r : Int} (h : F53 a0 = some r) : CallPure Pg 53 [(.d t23 a0)] (.d t2 r) := by
 refine qC c_53 9 [.tmp 2] [2] Go.Proofs.Tryz.func53 ?_
 show Run Pg 9 c_53 ⟨[(0, .d t23 a0)], []⟩ (fin53 r)
 unfold F53 at h
 refine qN [] 100 ⟨[(1, .ptr 100 0)], [(100, bx t23 a0)]⟩ aN ?_
 refine qN [] 200 ⟨[(2, .d t2 (wrapI .i64 ((wrapI .i64 (0 - a0.2.2.2.2.1)) - a0.2.2.2.2.2.1)))], []⟩ aN ?_
 refine Run.rt ?_
 obtain rfl := sI h
 exact qR [(.d t2 (wrapI .i64 ((wrapI .i64 (0 - a0.2.2.2.2.1)) - a0.2.2.2.2.2.1)))]

/-! ## f23 -/

noncomputable def c_23 : Code := body0 Go.Proofs.Tryz.f23

def fin23 (r : Int) : Ex → St → Prop := endK X0 [.tmp 2] [41] (.d t2 r)

def f23_l0_post (x5 : List (Int × Int × Int × Int × Int)) (x6 : Int) (x8 : Int × Int × Int × Int × Int × Int × (List (Int × Int × Int × Int × Int)) × Int) : ((Unit) ⊕ (Int)) → Ex → St → Prop
 | .inl o, x, s => x = .out 0 ∧ s = ⟨[], []⟩
 | .inr o, x, s => x = .ret ∧ fin23  o x s

def f23_l0_b (x5 : List (Int × Int × Int × Int × Int)) (x6 : Int) (x8 : Int × Int × Int × Int × Int × Int × (List (Int × Int × Int × Int × Int)) × Int) (again : Int → Option ((Unit) ⊕ (Int))) : Int → Option ((Unit) ⊕ (Int))
 | x7 =>
 (bif (decide (x7 < x6)) then
 gd (0 ≤ x7) <|
 gd (x7 < ((List.length x5 : Nat) : Int)) <|
 (F51 (List.getD x5 (toN x7) ((0 : Int), (0 : Int), (0 : Int), (0 : Int), (0 : Int))).1 (List.getD x5 (toN x7) ((0 : Int), (0 : Int), (0 : Int), (0 : Int), (0 : Int))).2.1 (List.getD x5 (toN x7) ((0 : Int), (0 : Int), (0 : Int), (0 : Int), (0 : Int))).2.2.1 (List.getD x5 (toN x7) ((0 : Int), (0 : Int), (0 : Int), (0 : Int), (0 : Int))).2.2.2.1).bind fun y12 =>
 (bif (!y12) then
 some (.inr (1 : Int))
 else
 (F53 x8).bind fun y13 =>
 (F52 (List.getD x5 (toN x7) ((0 : Int), (0 : Int), (0 : Int), (0 : Int), (0 : Int))).2.2.2.2 (max2i y13 (-10000000 : Int))).bind fun y14 =>
 (bif (!y14) then
 some (.inr (1 : Int))
 else
 (bif (decide (x8.2.2.2.2.2.2.2 ≤ (List.getD x5 (toN x7) ((0 : Int), (0 : Int), (0 : Int), (0 : Int), (0 : Int))).2.2.2.2)) then
 some (.inr (1 : Int))
 else
 again (wrapI .i64 (x7 + (1 : Int))))))
 else
 some (.inl ()))

def f23_l0 (x5 : List (Int × Int × Int × Int × Int)) (x6 : Int) (x8 : Int × Int × Int × Int × Int × Int × (List (Int × Int × Int × Int × Int)) × Int) : Nat → Int → Option ((Unit) ⊕ (Int)) := loopF (f23_l0_b x5 x6 x8)

theorem f23_l0_ok (x5 : List (Int × Int × Int × Int × Int)) (x6 : Int) (x8 : Int × Int × Int × Int × Int × Int × (List (Int × Int × Int × Int × Int)) × Int) (k : Nat) (x7 : Int) {out : ((Unit) ⊕ (Int))} (h : f23_l0 x5 x6 x8 k x7 = some out) : Run Pg 73 (bk1 (sq2 (sq1 (sq2 (sq2 c_23))))) ⟨[(1, .ptr 100 0), (40, .d t22 x5), (41, .d t2 x6), (42, .d t2 x7)], [(100, bx t23 x8)]⟩ (f23_l0_post x5 x6 x8 out) := by
 refine Run.loopN (by kernel_rfl) (fun m s => ∃ x7, s = ⟨[(1, .ptr 100 0), (40, .d t22 x5), (41, .d t2 x6), (42, .d t2 x7)], [(100, bx t23 x8)]⟩ ∧ f23_l0 x5 x6 x8 m x7 = some out) ?_ k ⟨x7,  rfl, h⟩
 rintro m s ⟨x7,  rfl, h⟩
 cases m with
 | zero => cases h
 | succ m =>
 replace h : f23_l0_b x5 x6 x8 (f23_l0 x5 x6 x8 m) x7 = some out := h
 unfold f23_l0_b at h
 refine qN [] 500 ⟨[(1, .ptr 100 0), (40, .d t22 x5), (41, .d t2 x6), (42, .d t2 x7), (43, .d t4 (decide (x7 < x6)))], [(100, bx t23 x8)]⟩ aN ?_
 refine Run.sq ?_
 refine Run.cd (decide (x7 < x6)) (fun hb => ?_) (fun hb => ?_)
 ·replace h := bif_t h hb
  refine Run.sk ?_
  show Run Pg 73 _ _ _
  refine Run.sq ?_
  refine Run.bl 1 ?_
  obtain ⟨g_0, h⟩ := gd_elim h
  obtain ⟨g_1, h⟩ := gd_elim h
  refine qN [] 600 ⟨[(1, .ptr 100 0), (4, .ptr 602 0), (40, .d t22 x5), (41, .d t2 x6), (42, .d t2 x7)], [(100, bx t23 x8), (602, bx t33 (List.getD x5 (toN x7) ((0 : Int), (0 : Int), (0 : Int), (0 : Int), (0 : Int))))]⟩ (aC g_0 (aC g_1 aN)) ?_
  obtain ⟨y12, h_y12, h⟩ := bnd_elim h
  rcases bif_elim h with ⟨hb1, h⟩ | ⟨hb1, h⟩
  ·refine qN [(8, .call (.d t4 y12)), (10, .b true)] 700 ⟨[(1, .ptr 100 0), (40, .d t22 x5), (41, .d t2 x6), (42, .d t2 x7), (71, .d t4 true)], [(100, bx t23 x8)]⟩ (aC (c51 h_y12) (aC hb1 aN)) ?_
   refine Run.cd true (fun hb => ?_) (fun hb => (by cases hb))
   refine qN [] 800 ⟨[(2, .d t2 (1 : Int))], []⟩ aN ?_
   refine Run.rt ?_
   obtain rfl := sI h
   exact ⟨rfl, [(.d t2 (1 : Int))], by kernel_rfl, by kernel_rfl⟩
  ·obtain ⟨y13, h_y13, h⟩ := bnd_elim h
   obtain ⟨y14, h_y14, h⟩ := bnd_elim h
   rcases bif_elim h with ⟨hb4, h⟩ | ⟨hb4, h⟩
   ·refine qN [(8, .call (.d t4 y12)), (10, .b false), (14, .call (.d t2 y13)), (16, .call (.d t4 y14)), (19, .b true)] 700 ⟨[(1, .ptr 100 0), (40, .d t22 x5), (41, .d t2 x6), (42, .d t2 x7), (71, .d t4 true)], [(100, bx t23 x8)]⟩ (aC (c51 h_y12) (aC hb1 (aC (c53 h_y13) (aC (c52 h_y14) (aC hb4 aN))))) ?_
    refine Run.cd true (fun hb => ?_) (fun hb => (by cases hb))
    refine qN [] 800 ⟨[(2, .d t2 (1 : Int))], []⟩ aN ?_
    refine Run.rt ?_
    obtain rfl := sI h
    exact ⟨rfl, [(.d t2 (1 : Int))], by kernel_rfl, by kernel_rfl⟩
   ·refine qN [(8, .call (.d t4 y12)), (10, .b false), (14, .call (.d t2 y13)), (16, .call (.d t4 y14)), (19, .b false)] 700 ⟨[(1, .ptr 100 0), (40, .d t22 x5), (41, .d t2 x6), (42, .d t2 x7), (71, .d t4 (decide (x8.2.2.2.2.2.2.2 ≤ (List.getD x5 (toN x7) ((0 : Int), (0 : Int), (0 : Int), (0 : Int), (0 : Int))).2.2.2.2)))], [(100, bx t23 x8)]⟩ (aC (c51 h_y12) (aC hb1 (aC (c53 h_y13) (aC (c52 h_y14) (aC hb4 aN))))) ?_
    refine Run.cd (decide (x8.2.2.2.2.2.2.2 ≤ (List.getD x5 (toN x7) ((0 : Int), (0 : Int), (0 : Int), (0 : Int), (0 : Int))).2.2.2.2)) (fun hb => ?_) (fun hb => ?_)
    ·replace h := bif_t h hb
     refine qN [] 800 ⟨[(2, .d t2 (1 : Int))], []⟩ aN ?_
     refine Run.rt ?_
     obtain rfl := sI h
     exact ⟨rfl, [(.d t2 (1 : Int))], by kernel_rfl, by kernel_rfl⟩
    ·replace h := bif_f h hb
     refine Run.sk ?_
     show Run Pg 73 _ _ _
     refine qE [] 900 ⟨[(1, .ptr 100 0), (40, .d t22 x5), (41, .d t2 x6), (42, .d t2 (wrapI .i64 (x7 + (1 : Int))))], [(100, bx t23 x8)]⟩ aN ?_
     exact ⟨m, Nat.lt_succ_self m, _, rfl, h⟩
 ·replace h := bif_f h hb
  refine qK ⟨[], []⟩ ?_
  refine Run.ex 0 ?_
  obtain rfl := sI h
  exact ⟨rfl, by kernel_rfl⟩

def F23 (a0 : Int × Int × Int × Int × Int × Int × (List (Int × Int × Int × Int × Int)) × Int) : Option (Int) :=
 (F51 a0.1 a0.2.1 a0.2.2.1 a0.2.2.2.1).bind fun y1 =>
 (bif (!y1) then
 some (1 : Int)
 else
 (F52 a0.2.2.2.2.1 (1 : Int)).bind fun y2 =>
 (bif (!y2) then
 some (1 : Int)
 else
 (F52 a0.2.2.2.2.2.1 (0 : Int)).bind fun y3 =>
 (bif (!y3) then
 some (1 : Int)
 else
 (F52 a0.2.2.2.2.2.2.2 (1 : Int)).bind fun y4 =>
 (bif (!y4) then
 some (1 : Int)
 else
 (bif (decide ((50 : Int) < (ofN (List.length a0.2.2.2.2.2.2.1)))) then
 some (1 : Int)
 else
 ((f23_l0 a0.2.2.2.2.2.2.1 (ofN (List.length a0.2.2.2.2.2.2.1)) a0 (2 + List.length a0.2.2.2.2.2.2.1) (0 : Int)).bind fun o15 => match o15 with
 | .inl o16 =>
 some (0 : Int)
 | .inr o17 =>
 some o17))))))

theorem c23 {a0 : Int × Int × Int × Int × Int × Int × (List (Int × Int × Int × Int × Int)) × Int} {r : Int} (h : F23 a0 = some r) : CallPure Pg 23 [(.d t23 a0)] (.d t2 r) := by
 refine qC c_23 73 [.tmp 2] [41] Go.Proofs.Tryz.func23 ?_
 show Run Pg 73 c_23 ⟨[(0, .d t23 a0)], []⟩ (fin23 r)
 unfold F23 at h
 refine qN [] 100 ⟨[(1, .ptr 100 0)], [(100, bx t23 a0)]⟩ aN ?_
 refine Run.sq ?_
 obtain ⟨y1, h_y1, h⟩ := bnd_elim h
 rcases bif_elim h with ⟨hb1, h⟩ | ⟨hb1, h⟩
 ·refine qN [(8, .call (.d t4 y1)), (10, .b true)] 200 ⟨[(1, .ptr 100 0), (38, .d t4 true)], [(100, bx t23 a0)]⟩ (aC (c51 h_y1) (aC hb1 aN)) ?_
  refine Run.cd true (fun hb => ?_) (fun hb => (by cases hb))
  refine qN [] 300 ⟨[(2, .d t2 (1 : Int))], []⟩ aN ?_
  refine Run.rt ?_
  obtain rfl := sI h
  exact qR [(.d t2 (1 : Int))]
 ·obtain ⟨y2, h_y2, h⟩ := bnd_elim h
  rcases bif_elim h with ⟨hb3, h⟩ | ⟨hb3, h⟩
  ·refine qN [(8, .call (.d t4 y1)), (10, .b false), (13, .call (.d t4 y2)), (16, .b true)] 200 ⟨[(1, .ptr 100 0), (38, .d t4 true)], [(100, bx t23 a0)]⟩ (aC (c51 h_y1) (aC hb1 (aC (c52 h_y2) (aC hb3 aN)))) ?_
   refine Run.cd true (fun hb => ?_) (fun hb => (by cases hb))
   refine qN [] 300 ⟨[(2, .d t2 (1 : Int))], []⟩ aN ?_
   refine Run.rt ?_
   obtain rfl := sI h
   exact qR [(.d t2 (1 : Int))]
  ·obtain ⟨y3, h_y3, h⟩ := bnd_elim h
   rcases bif_elim h with ⟨hb5, h⟩ | ⟨hb5, h⟩
   ·refine qN [(8, .call (.d t4 y1)), (10, .b false), (13, .call (.d t4 y2)), (16, .b false), (19, .call (.d t4 y3)), (22, .b true)] 200 ⟨[(1, .ptr 100 0), (38, .d t4 true)], [(100, bx t23 a0)]⟩ (aC (c51 h_y1) (aC hb1 (aC (c52 h_y2) (aC hb3 (aC (c52 h_y3) (aC hb5 aN)))))) ?_
    refine Run.cd true (fun hb => ?_) (fun hb => (by cases hb))
    refine qN [] 300 ⟨[(2, .d t2 (1 : Int))], []⟩ aN ?_
    refine Run.rt ?_
    obtain rfl := sI h
    exact qR [(.d t2 (1 : Int))]
   ·obtain ⟨y4, h_y4, h⟩ := bnd_elim h
    rcases bif_elim h with ⟨hb7, h⟩ | ⟨hb7, h⟩
    ·refine qN [(8, .call (.d t4 y1)), (10, .b false), (13, .call (.d t4 y2)), (16, .b false), (19, .call (.d t4 y3)), (22, .b false), (25, .call (.d t4 y4)), (28, .b true)] 200 ⟨[(1, .ptr 100 0), (38, .d t4 true)], [(100, bx t23 a0)]⟩ (aC (c51 h_y1) (aC hb1 (aC (c52 h_y2) (aC hb3 (aC (c52 h_y3) (aC hb5 (aC (c52 h_y4) (aC hb7 aN)))))))) ?_
     refine Run.cd true (fun hb => ?_) (fun hb => (by cases hb))
     refine qN [] 300 ⟨[(2, .d t2 (1 : Int))], []⟩ aN ?_
     refine Run.rt ?_
     obtain rfl := sI h
     exact qR [(.d t2 (1 : Int))]
    ·refine qN [(8, .call (.d t4 y1)), (10, .b false), (13, .call (.d t4 y2)), (16, .b false), (19, .call (.d t4 y3)), (22, .b false), (25, .call (.d t4 y4)), (28, .b false)] 200 ⟨[(1, .ptr 100 0), (38, .d t4 (decide ((50 : Int) < (ofN (List.length a0.2.2.2.2.2.2.1)))))], [(100, bx t23 a0)]⟩ (aC (c51 h_y1) (aC hb1 (aC (c52 h_y2) (aC hb3 (aC (c52 h_y3) (aC hb5 (aC (c52 h_y4) (aC hb7 aN)))))))) ?_
     refine Run.cd (decide ((50 : Int) < (ofN (List.length a0.2.2.2.2.2.2.1)))) (fun hb => ?_) (fun hb => ?_)
     ·replace h := bif_t h hb
      refine qN [] 300 ⟨[(2, .d t2 (1 : Int))], []⟩ aN ?_
      refine Run.rt ?_
      obtain rfl := sI h
      exact qR [(.d t2 (1 : Int))]
     ·replace h := bif_f h hb
      refine Run.sk ?_
      show Run Pg 73 _ _ _
      refine Run.sq ?_
      refine qN [] 400 ⟨[(1, .ptr 100 0), (40, .d t22 a0.2.2.2.2.2.2.1), (41, .d t2 (ofN (List.length a0.2.2.2.2.2.2.1))), (42, .d t2 (0 : Int))], [(100, bx t23 a0)]⟩ aN ?_
      refine Run.bl 0 ?_
      obtain ⟨o15, h_o15, h⟩ := bnd_elim h
      refine Run.mono (f23_l0_ok a0.2.2.2.2.2.2.1 (ofN (List.length a0.2.2.2.2.2.2.1)) a0 _ (0 : Int) h_o15) ?_
      rcases o15 with o16 | o17
      ·rintro _ _ ⟨rfl, rfl⟩
       show Run Pg 73 _ _ _
       refine qN [] 1000 ⟨[(2, .d t2 (0 : Int))], []⟩ aN ?_
       refine Run.rt ?_
       obtain rfl := sI h
       exact qR [(.d t2 (0 : Int))]
      ·rintro _ s ⟨rfl, hr⟩
       obtain rfl := sI h
       exact hr

/-! ## f25 -/

noncomputable def c_25 : Code := body0 Go.Proofs.Tryz.f25

def fin25 (r : (Int × Int)) : Ex → St → Prop := endK X0 [.cell 2 26] [26] (.d t25 r)

def F25 (a0 : Int × Int × Int) : Option ((Int × Int)) :=
 some (a0.1, a0.2.1)

theorem c25 {a0 : Int × Int × Int} {r : (Int × Int)} (h : F25 a0 = some r) : CallPure Pg 25 [(.d t36 a0)] (.d t25 r) := by
 refine qC c_25 8 [.cell 2 26] [26] Go.Proofs.Tryz.func25 ?_
 show Run Pg 8 c_25 ⟨[(0, .d t36 a0)], []⟩ (fin25 r)
 unfold F25 at h
 refine qN [] 100 ⟨[(1, .ptr 100 0), (2, .ptr 101 0)], [(100, bx t36 a0), (101, bx t25 ((0 : Int), (0 : Int)))]⟩ aN ?_
 refine qN [] 200 ⟨[(2, .ptr 101 0)], [(101, bx t25 (a0.1, a0.2.1))]⟩ aN ?_
 refine Run.rt ?_
 obtain rfl := sI h
 exact qR [(.d t25 (a0.1, a0.2.1))]

/-! ## f54 -/

noncomputable def c_54 : Code := body0 Go.Proofs.Tryz.f54

def fin54s0 (a2 : Int × Int × Int) (a3 : List (Int × (Int × Int × Int) × (Int × Int) × Int)) (r : (Int × Int × Int) × (List (Int × (Int × Int × Int) × (Int × Int) × Int))) : Ex → St → Prop := endS X0 [] [] (.tup .vnil) [(1000000, .box (.vcons (.d t36 r.1) (.vcons (.vec 900001 t68) .vnil))), (900001, .vec 69 t68 r.2)]

def f54s0_c0_post (x1 : Int) (x2 : Bool) (x3 : Int × Int × Int) (x4 : Int × (Int × Int × Int) × (Int × Int) × Int) (x5 : List (Int × (Int × Int × Int) × (Int × Int) × Int)) (x6 : Int × Int × Int) : ((Int × (Int × Int × Int) × (Int × Int) × Int)) → Ex → St → Prop
 | o, x, s => x = .nrm ∧ s = ⟨[(0, .ptr 1000000 0), (4, .ptr 100 0), (6, .ptr 302 0)], [(100, bx t36 x3), (302, bx t68 o), (900001, .vec 69 t68 x5), (1000000, .box (.vcons (.d t36 x6) (.vcons (.vec 900001 t68) .vnil)))]⟩

def f54s0_c0 (x1 : Int) (x2 : Bool) (x4 : Int × (Int × Int × Int) × (Int × Int) × Int) : Option ((Int × (Int × Int × Int) × (Int × Int) × Int)) :=
 (bif x2 then
 some ((2 : Int), x4.2.1, x4.2.2.1, x1)
 else
 some x4)

theorem f54s0_c0_ok (x1 : Int) (x2 : Bool) (x3 : Int × Int × Int) (x4 : Int × (Int × Int × Int) × (Int × Int) × Int) (x5 : List (Int × (Int × Int × Int) × (Int × Int) × Int)) (x6 : Int × Int × Int) {out : ((Int × (Int × Int × Int) × (Int × Int) × Int))} (h : f54s0_c0 x1 x2 x4 = some out) : Run Pg 34 (sq2 (sq1 (sq2 (sq2 (sq2 c_54))))) ⟨[(0, .ptr 1000000 0), (2, .d t2 x1), (4, .ptr 100 0), (6, .ptr 302 0), (16, .d t4 x2)], [(100, bx t36 x3), (302, bx t68 x4), (900001, .vec 69 t68 x5), (1000000, .box (.vcons (.d t36 x6) (.vcons (.vec 900001 t68) .vnil)))]⟩ (f54s0_c0_post x1 x2 x3 x4 x5 x6 out) := by
 unfold f54s0_c0 at h
 refine Run.cd x2 (fun hb => ?_) (fun hb => ?_)
 ·replace h := bif_t h hb
  refine qE [] 500 ⟨[(0, .ptr 1000000 0), (4, .ptr 100 0), (6, .ptr 302 0)], [(100, bx t36 x3), (302, bx t68 ((2 : Int), x4.2.1, x4.2.2.1, x1)), (900001, .vec 69 t68 x5), (1000000, .box (.vcons (.d t36 x6) (.vcons (.vec 900001 t68) .vnil)))]⟩ aN ?_
  obtain rfl := sI h
  exact ⟨rfl, by kernel_rfl⟩
 ·replace h := bif_f h hb
  refine qK ⟨[(0, .ptr 1000000 0), (4, .ptr 100 0), (6, .ptr 302 0)], [(100, bx t36 x3), (302, bx t68 x4), (900001, .vec 69 t68 x5), (1000000, .box (.vcons (.d t36 x6) (.vcons (.vec 900001 t68) .vnil)))]⟩ ?_
  refine Run.sk ?_
  obtain rfl := sI h
  exact ⟨rfl, by kernel_rfl⟩

def F54s0 (a0 : Int × Int × Int) (a1 : Int) (a2 : Int × Int × Int) (a3 : List (Int × (Int × Int × Int) × (Int × Int) × Int)) : Option ((Int × Int × Int) × (List (Int × (Int × Int × Int) × (Int × Int) × Int))) :=
 (bif (eqD t36 a0 a2) then
 some (a2, a3)
 else
 ((f54s0_c0 a1 (decide ((0 : Int) < a1)) ((1 : Int), a0, ((0 : Int), (0 : Int)), (0 : Int))).bind fun o7 =>
 gd (List.length (a3 ++ ([o7] : List (Int × (Int × Int × Int) × (Int × Int) × Int))) ≤ 1073741824) <|
 some (a0, (a3 ++ ([o7] : List (Int × (Int × Int × Int) × (Int × Int) × Int))))))

theorem c54s0 {a0 : Int × Int × Int} {a1 : Int} {a2 : Int × Int × Int} {a3 : List (Int × (Int × Int × Int) × (Int × Int) × Int)} {r : (Int × Int × Int) × (List (Int × (Int × Int × Int) × (Int × Int) × Int))} (h : F54s0 a0 a1 a2 a3 = some r) : CallSt Pg 54 [(.ptr 1000000 0), (.d t36 a0), (.d t2 a1)] [(1000000, .box (.vcons (.d t36 a2) (.vcons (.vec 900001 t68) .vnil))), (900001, .vec 69 t68 a3)] (.tup .vnil) [(1000000, .box (.vcons (.d t36 r.1) (.vcons (.vec 900001 t68) .vnil))), (900001, .vec 69 t68 r.2)] := by
 refine callStN hX c_54 34 [] [] Go.Proofs.Tryz.func54 (by kernel_rfl) (by kernel_rfl) (by kernel_rfl) (Nat.le_of_ble_eq_true rfl) rfl ?_
 show Run Pg 34 c_54 ⟨[(0, .ptr 1000000 0), (1, .d t36 a0), (2, .d t2 a1)], [(1000000, .box (.vcons (.d t36 a2) (.vcons (.vec 900001 t68) .vnil))), (900001, .vec 69 t68 a3)]⟩ (fin54s0 a2 a3 r)
 unfold F54s0 at h
 refine qN [] 100 ⟨[(0, .ptr 1000000 0), (2, .d t2 a1), (4, .ptr 100 0)], [(100, bx t36 a0), (900001, .vec 69 t68 a3), (1000000, .box (.vcons (.d t36 a2) (.vcons (.vec 900001 t68) .vnil)))]⟩ aN ?_
 refine Run.sq ?_
 refine qN [] 200 ⟨[(0, .ptr 1000000 0), (2, .d t2 a1), (4, .ptr 100 0), (12, .d t4 (eqD t36 a0 a2))], [(100, bx t36 a0), (900001, .vec 69 t68 a3), (1000000, .box (.vcons (.d t36 a2) (.vcons (.vec 900001 t68) .vnil)))]⟩ aN ?_
 refine Run.cd (eqD t36 a0 a2) (fun hb => ?_) (fun hb => ?_)
 ·replace h := bif_t h hb
  refine Run.rt ?_
  obtain rfl := sI h
  exact ⟨[], ⟨[], [(1000000, .box (.vcons (.d t36 a2) (.vcons (.vec 900001 t68) .vnil))), (900001, .vec 69 t68 a3)]⟩, by kernel_rfl, by kernel_rfl, by kernel_rfl, by kernel_rfl⟩
 ·replace h := bif_f h hb
  refine Run.sk ?_
  show Run Pg 34 _ _ _
  refine qN [] 300 ⟨[(0, .ptr 1000000 0), (2, .d t2 a1), (4, .ptr 100 0), (6, .ptr 302 0)], [(100, bx t36 a0), (302, bx t68 ((1 : Int), a0, ((0 : Int), (0 : Int)), (0 : Int))), (900001, .vec 69 t68 a3), (1000000, .box (.vcons (.d t36 a2) (.vcons (.vec 900001 t68) .vnil)))]⟩ aN ?_
  refine Run.sq ?_
  refine qN [] 400 ⟨[(0, .ptr 1000000 0), (2, .d t2 a1), (4, .ptr 100 0), (6, .ptr 302 0), (16, .d t4 (decide ((0 : Int) < a1)))], [(100, bx t36 a0), (302, bx t68 ((1 : Int), a0, ((0 : Int), (0 : Int)), (0 : Int))), (900001, .vec 69 t68 a3), (1000000, .box (.vcons (.d t36 a2) (.vcons (.vec 900001 t68) .vnil)))]⟩ aN ?_
  obtain ⟨o7, h_o7, h⟩ := bnd_elim h
  refine Run.mono (f54s0_c0_ok a1 (decide ((0 : Int) < a1)) a0 ((1 : Int), a0, ((0 : Int), (0 : Int)), (0 : Int)) a3 a2 h_o7) ?_
  rintro _ _ ⟨rfl, rfl⟩
  show Run Pg 34 _ _ _
  obtain ⟨g_0, h⟩ := gd_elim h
  refine qE [] 600 ⟨[], [(900001, .vec 69 t68 (a3 ++ ([o7] : List (Int × (Int × Int × Int) × (Int × Int) × Int)))), (1000000, .box (.vcons (.d t36 a0) (.vcons (.vec 900001 t68) .vnil)))]⟩ (aC g_0 aN) ?_
  obtain rfl := sI h
  exact ⟨[], ⟨[], [(1000000, .box (.vcons (.d t36 a0) (.vcons (.vec 900001 t68) .vnil))), (900001, .vec 69 t68 (a3 ++ ([o7] : List (Int × (Int × Int × Int) × (Int × Int) × Int))))]⟩, by kernel_rfl, by kernel_rfl, by kernel_rfl, by kernel_rfl⟩

/-! ## f26 -/

noncomputable def c_26 : Code := body0 Go.Proofs.Tryz.f26

def fin26s0 (a1 : Int × Int × Int) (a2 : List (Int × (Int × Int × Int) × (Int × Int) × Int)) (r : (Int × Int × Int) × (List (Int × (Int × Int × Int) × (Int × Int) × Int))) : Ex → St → Prop := endS X0 [] [] (.tup .vnil) [(1000000, .box (.vcons (.d t36 r.1) (.vcons (.vec 900001 t68) .vnil))), (900001, .vec 69 t68 r.2)]

def F26s0 (a0 : Int) (a1 : Int × Int × Int) (a2 : List (Int × (Int × Int × Int) × (Int × Int) × Int)) : Option ((Int × Int × Int) × (List (Int × (Int × Int × Int) × (Int × Int) × Int))) :=
 (F54s0 (a1.1, a1.2.1, a0) (0 : Int) a1 a2).bind fun y1 =>
 some (y1.1, y1.2)

theorem c26s0 {a0 : Int} {a1 : Int × Int × Int} {a2 : List (Int × (Int × Int × Int) × (Int × Int) × Int)} {r : (Int × Int × Int) × (List (Int × (Int × Int × Int) × (Int × Int) × Int))} (h : F26s0 a0 a1 a2 = some r) : CallSt Pg 26 [(.ptr 1000000 0), (.d t2 a0)] [(1000000, .box (.vcons (.d t36 a1) (.vcons (.vec 900001 t68) .vnil))), (900001, .vec 69 t68 a2)] (.tup .vnil) [(1000000, .box (.vcons (.d t36 r.1) (.vcons (.vec 900001 t68) .vnil))), (900001, .vec 69 t68 r.2)] := by
 refine callStN hX c_26 18 [] [] Go.Proofs.Tryz.func26 (by kernel_rfl) (by kernel_rfl) (by kernel_rfl) (Nat.le_of_ble_eq_true rfl) rfl ?_
 show Run Pg 18 c_26 ⟨[(0, .ptr 1000000 0), (1, .d t2 a0)], [(1000000, .box (.vcons (.d t36 a1) (.vcons (.vec 900001 t68) .vnil))), (900001, .vec 69 t68 a2)]⟩ (fin26s0 a1 a2 r)
 unfold F26s0 at h
 obtain ⟨y1, h_y1, h⟩ := bnd_elim h
 refine qE [(13, .callS [(1000000, .box (.vcons (.d t36 a1) (.vcons (.vec 900001 t68) .vnil))), (900001, .vec 69 t68 a2)] [(.ptr 1000000 0), (.d t36 (a1.1, a1.2.1, a0)), (.d t2 (0 : Int))] [(1000000, 1000000), (900001, 900001)] (.tup .vnil) [(1000000, .box (.vcons (.d t36 y1.1) (.vcons (.vec 900001 t68) .vnil))), (900001, .vec 69 t68 y1.2)])] 100 ⟨[], [(900001, .vec 69 t68 y1.2), (1000000, .box (.vcons (.d t36 y1.1) (.vcons (.vec 900001 t68) .vnil)))]⟩ (aC (show (([(.ptr 1000000 0), (.d t36 (a1.1, a1.2.1, a0)), (.d t2 (0 : Int))] : List V) = List.map (V.ren (renL [(1000000, 1000000), (900001, 900001)] 113)) [(.ptr 1000000 0), (.d t36 (a1.1, a1.2.1, a0)), (.d t2 (0 : Int))]) from (by kernel_rfl)) (aC (c54s0 h_y1) (aC (show ((some (.box (.vcons (.d t36 a1) (.vcons (.vec 900001 t68) .vnil))) : Option E) = some (E.ren (renL [(1000000, 1000000), (900001, 900001)] 113) (.box (.vcons (.d t36 a1) (.vcons (.vec 900001 t68) .vnil))))) from (by kernel_rfl)) (aC (show ((some (.vec 69 t68 a2) : Option E) = some (E.ren (renL [(1000000, 1000000), (900001, 900001)] 113) (.vec 69 t68 a2))) from (by kernel_rfl)) aN)))) ?_
 obtain rfl := sI h
 exact ⟨[], ⟨[], [(1000000, .box (.vcons (.d t36 y1.1) (.vcons (.vec 900001 t68) .vnil))), (900001, .vec 69 t68 y1.2)]⟩, by kernel_rfl, by kernel_rfl, by kernel_rfl, by kernel_rfl⟩

/-! ## f27 -/

noncomputable def c_27 : Code := body0 Go.Proofs.Tryz.f27

def fin27s0 (a1 : Int × Int × Int) (a2 : List (Int × (Int × Int × Int) × (Int × Int) × Int)) (r : (Int × Int × Int) × (List (Int × (Int × Int × Int) × (Int × Int) × Int))) : Ex → St → Prop := endS X0 [] [] (.tup .vnil) [(1000000, .box (.vcons (.d t36 r.1) (.vcons (.vec 900001 t68) .vnil))), (900001, .vec 69 t68 r.2)]

def F27s0 (a0 : Int × Int) (a1 : Int × Int × Int) (a2 : List (Int × (Int × Int × Int) × (Int × Int) × Int)) : Option ((Int × Int × Int) × (List (Int × (Int × Int × Int) × (Int × Int) × Int))) :=
 (F54s0 (a0.1, a0.2, a1.2.2) (0 : Int) a1 a2).bind fun y1 =>
 some (y1.1, y1.2)

theorem c27s0 {a0 : Int × Int} {a1 : Int × Int × Int} {a2 : List (Int × (Int × Int × Int) × (Int × Int) × Int)} {r : (Int × Int × Int) × (List (Int × (Int × Int × Int) × (Int × Int) × Int))} (h : F27s0 a0 a1 a2 = some r) : CallSt Pg 27 [(.ptr 1000000 0), (.d t25 a0)] [(1000000, .box (.vcons (.d t36 a1) (.vcons (.vec 900001 t68) .vnil))), (900001, .vec 69 t68 a2)] (.tup .vnil) [(1000000, .box (.vcons (.d t36 r.1) (.vcons (.vec 900001 t68) .vnil))), (900001, .vec 69 t68 r.2)] := by
 refine callStN hX c_27 16 [] [] Go.Proofs.Tryz.func27 (by kernel_rfl) (by kernel_rfl) (by kernel_rfl) (Nat.le_of_ble_eq_true rfl) rfl ?_
 show Run Pg 16 c_27 ⟨[(0, .ptr 1000000 0), (1, .d t25 a0)], [(1000000, .box (.vcons (.d t36 a1) (.vcons (.vec 900001 t68) .vnil))), (900001, .vec 69 t68 a2)]⟩ (fin27s0 a1 a2 r)
 unfold F27s0 at h
 refine qN [] 100 ⟨[(0, .ptr 1000000 0), (3, .ptr 100 0)], [(100, bx t25 a0), (900001, .vec 69 t68 a2), (1000000, .box (.vcons (.d t36 a1) (.vcons (.vec 900001 t68) .vnil)))]⟩ aN ?_
 obtain ⟨y1, h_y1, h⟩ := bnd_elim h
 refine qE [(11, .callS [(1000000, .box (.vcons (.d t36 a1) (.vcons (.vec 900001 t68) .vnil))), (900001, .vec 69 t68 a2)] [(.ptr 1000000 0), (.d t36 (a0.1, a0.2, a1.2.2)), (.d t2 (0 : Int))] [(1000000, 1000000), (900001, 900001)] (.tup .vnil) [(1000000, .box (.vcons (.d t36 y1.1) (.vcons (.vec 900001 t68) .vnil))), (900001, .vec 69 t68 y1.2)])] 200 ⟨[], [(900001, .vec 69 t68 y1.2), (1000000, .box (.vcons (.d t36 y1.1) (.vcons (.vec 900001 t68) .vnil)))]⟩ (aC (show (([(.ptr 1000000 0), (.d t36 (a0.1, a0.2, a1.2.2)), (.d t2 (0 : Int))] : List V) = List.map (V.ren (renL [(1000000, 1000000), (900001, 900001)] 211)) [(.ptr 1000000 0), (.d t36 (a0.1, a0.2, a1.2.2)), (.d t2 (0 : Int))]) from (by kernel_rfl)) (aC (c54s0 h_y1) (aC (show ((some (.box (.vcons (.d t36 a1) (.vcons (.vec 900001 t68) .vnil))) : Option E) = some (E.ren (renL [(1000000, 1000000), (900001, 900001)] 211) (.box (.vcons (.d t36 a1) (.vcons (.vec 900001 t68) .vnil))))) from (by kernel_rfl)) (aC (show ((some (.vec 69 t68 a2) : Option E) = some (E.ren (renL [(1000000, 1000000), (900001, 900001)] 211) (.vec 69 t68 a2))) from (by kernel_rfl)) aN)))) ?_
 obtain rfl := sI h
 exact ⟨[], ⟨[], [(1000000, .box (.vcons (.d t36 y1.1) (.vcons (.vec 900001 t68) .vnil))), (900001, .vec 69 t68 y1.2)]⟩, by kernel_rfl, by kernel_rfl, by kernel_rfl, by kernel_rfl⟩

/-! ## f28 -/

noncomputable def c_28 : Code := body0 Go.Proofs.Tryz.f28

def fin28s0 (a2 : Int × Int × Int) (a3 : List (Int × (Int × Int × Int) × (Int × Int) × Int)) (r : (Int × Int × Int) × (List (Int × (Int × Int × Int) × (Int × Int) × Int))) : Ex → St → Prop := endS X0 [] [] (.tup .vnil) [(1000000, .box (.vcons (.d t36 r.1) (.vcons (.vec 900001 t68) .vnil))), (900001, .vec 69 t68 r.2)]

def f28s0_c0_post (x1 : Int) (x2 : Int) (x3 : Int) (x4 : Bool) (x5 : List (Int × (Int × Int × Int) × (Int × Int) × Int)) (x6 : Int × Int × Int) : ((List (Int × (Int × Int × Int) × (Int × Int) × Int)) × (Int × Int × Int)) → Ex → St → Prop
 | o, x, s => x = .nrm ∧ s = ⟨[(0, .ptr 1000000 0), (1, .d t2 x1), (2, .d t2 x2)], [(900001, .vec 69 t68 o.1), (1000000, .box (.vcons (.d t36 o.2) (.vcons (.vec 900001 t68) .vnil)))]⟩

def f28s0_c0 (x3 : Int) (x4 : Bool) (x5 : List (Int × (Int × Int × Int) × (Int × Int) × Int)) (x6 : Int × Int × Int) : Option ((List (Int × (Int × Int × Int) × (Int × Int) × Int)) × (Int × Int × Int)) :=
 (bif x4 then
 (F26s0 x3 x6 x5).bind fun y8 =>
 some (y8.2, y8.1)
 else
 some (x5, x6))

theorem f28s0_c0_ok (x1 : Int) (x2 : Int) (x3 : Int) (x4 : Bool) (x5 : List (Int × (Int × Int × Int) × (Int × Int) × Int)) (x6 : Int × Int × Int) {out : ((List (Int × (Int × Int × Int) × (Int × Int) × Int)) × (Int × Int × Int))} (h : f28s0_c0 x3 x4 x5 x6 = some out) : Run Pg 45 (sq2 (sq2 (sq1 c_28))) ⟨[(0, .ptr 1000000 0), (1, .d t2 x1), (2, .d t2 x2), (6, .d t2 x3), (15, .d t4 x4)], [(900001, .vec 69 t68 x5), (1000000, .box (.vcons (.d t36 x6) (.vcons (.vec 900001 t68) .vnil)))]⟩ (f28s0_c0_post x1 x2 x3 x4 x5 x6 out) := by
 unfold f28s0_c0 at h
 refine Run.cd x4 (fun hb => ?_) (fun hb => ?_)
 ·replace h := bif_t h hb
  obtain ⟨y8, h_y8, h⟩ := bnd_elim h
  refine qE [(2, .callS [(1000000, .box (.vcons (.d t36 x6) (.vcons (.vec 900001 t68) .vnil))), (900001, .vec 69 t68 x5)] [(.ptr 1000000 0), (.d t2 x3)] [(1000000, 1000000), (900001, 900001)] (.tup .vnil) [(1000000, .box (.vcons (.d t36 y8.1) (.vcons (.vec 900001 t68) .vnil))), (900001, .vec 69 t68 y8.2)])] 300 ⟨[(0, .ptr 1000000 0), (1, .d t2 x1), (2, .d t2 x2)], [(900001, .vec 69 t68 y8.2), (1000000, .box (.vcons (.d t36 y8.1) (.vcons (.vec 900001 t68) .vnil)))]⟩ (aC (show (([(.ptr 1000000 0), (.d t2 x3)] : List V) = List.map (V.ren (renL [(1000000, 1000000), (900001, 900001)] 302)) [(.ptr 1000000 0), (.d t2 x3)]) from (by kernel_rfl)) (aC (c26s0 h_y8) (aC (show ((some (.box (.vcons (.d t36 x6) (.vcons (.vec 900001 t68) .vnil))) : Option E) = some (E.ren (renL [(1000000, 1000000), (900001, 900001)] 302) (.box (.vcons (.d t36 x6) (.vcons (.vec 900001 t68) .vnil))))) from (by kernel_rfl)) (aC (show ((some (.vec 69 t68 x5) : Option E) = some (E.ren (renL [(1000000, 1000000), (900001, 900001)] 302) (.vec 69 t68 x5))) from (by kernel_rfl)) aN)))) ?_
  obtain rfl := sI h
  exact ⟨rfl, by kernel_rfl⟩
 ·replace h := bif_f h hb
  refine qK ⟨[(0, .ptr 1000000 0), (1, .d t2 x1), (2, .d t2 x2)], [(900001, .vec 69 t68 x5), (1000000, .box (.vcons (.d t36 x6) (.vcons (.vec 900001 t68) .vnil)))]⟩ ?_
  refine Run.sk ?_
  obtain rfl := sI h
  exact ⟨rfl, by kernel_rfl⟩

def f28s0_c1_post (x10 : Int) (x11 : Int) (x12 : Bool) (x13 : List (Int × (Int × Int × Int) × (Int × Int) × Int)) (x14 : Int × Int × Int) : ((List (Int × (Int × Int × Int) × (Int × Int) × Int)) × (Int × Int × Int)) → Ex → St → Prop
 | o, x, s => x = .nrm ∧ s = ⟨[], [(900001, .vec 69 t68 o.1), (1000000, .box (.vcons (.d t36 o.2) (.vcons (.vec 900001 t68) .vnil)))]⟩

def f28s0_c1 (x10 : Int) (x11 : Int) (x12 : Bool) (x13 : List (Int × (Int × Int × Int) × (Int × Int) × Int)) (x14 : Int × Int × Int) : Option ((List (Int × (Int × Int × Int) × (Int × Int) × Int)) × (Int × Int × Int)) :=
 (bif x12 then
 (F54s0 (x14.1, x14.2.1, x10) x11 x14 x13).bind fun y16 =>
 some (y16.2, y16.1)
 else
 some (x13, x14))

theorem f28s0_c1_ok (x10 : Int) (x11 : Int) (x12 : Bool) (x13 : List (Int × (Int × Int × Int) × (Int × Int) × Int)) (x14 : Int × Int × Int) {out : ((List (Int × (Int × Int × Int) × (Int × Int) × Int)) × (Int × Int × Int))} (h : f28s0_c1 x10 x11 x12 x13 x14 = some out) : Run Pg 45 (sq2 (sq2 c_28)) ⟨[(0, .ptr 1000000 0), (1, .d t2 x10), (2, .d t2 x11), (29, .d t4 x12)], [(900001, .vec 69 t68 x13), (1000000, .box (.vcons (.d t36 x14) (.vcons (.vec 900001 t68) .vnil)))]⟩ (f28s0_c1_post x10 x11 x12 x13 x14 out) := by
 unfold f28s0_c1 at h
 refine Run.cd x12 (fun hb => ?_) (fun hb => ?_)
 ·replace h := bif_t h hb
  obtain ⟨y16, h_y16, h⟩ := bnd_elim h
  refine qE [(14, .callS [(1000000, .box (.vcons (.d t36 x14) (.vcons (.vec 900001 t68) .vnil))), (900001, .vec 69 t68 x13)] [(.ptr 1000000 0), (.d t36 (x14.1, x14.2.1, x10)), (.d t2 x11)] [(1000000, 1000000), (900001, 900001)] (.tup .vnil) [(1000000, .box (.vcons (.d t36 y16.1) (.vcons (.vec 900001 t68) .vnil))), (900001, .vec 69 t68 y16.2)])] 500 ⟨[], [(900001, .vec 69 t68 y16.2), (1000000, .box (.vcons (.d t36 y16.1) (.vcons (.vec 900001 t68) .vnil)))]⟩ (aC (show (([(.ptr 1000000 0), (.d t36 (x14.1, x14.2.1, x10)), (.d t2 x11)] : List V) = List.map (V.ren (renL [(1000000, 1000000), (900001, 900001)] 514)) [(.ptr 1000000 0), (.d t36 (x14.1, x14.2.1, x10)), (.d t2 x11)]) from (by kernel_rfl)) (aC (c54s0 h_y16) (aC (show ((some (.box (.vcons (.d t36 x14) (.vcons (.vec 900001 t68) .vnil))) : Option E) = some (E.ren (renL [(1000000, 1000000), (900001, 900001)] 514) (.box (.vcons (.d t36 x14) (.vcons (.vec 900001 t68) .vnil))))) from (by kernel_rfl)) (aC (show ((some (.vec 69 t68 x13) : Option E) = some (E.ren (renL [(1000000, 1000000), (900001, 900001)] 514) (.vec 69 t68 x13))) from (by kernel_rfl)) aN)))) ?_
  obtain rfl := sI h
  exact ⟨rfl, by kernel_rfl⟩
 ·replace h := bif_f h hb
  refine qK ⟨[], [(900001, .vec 69 t68 x13), (1000000, .box (.vcons (.d t36 x14) (.vcons (.vec 900001 t68) .vnil)))]⟩ ?_
  refine Run.sk ?_
  obtain rfl := sI h
  exact ⟨rfl, by kernel_rfl⟩

def F28s0 (a0 : Int) (a1 : Int) (a2 : Int × Int × Int) (a3 : List (Int × (Int × Int × Int) × (Int × Int) × Int)) : Option ((Int × Int × Int) × (List (Int × (Int × Int × Int) × (Int × Int) × Int))) :=
 ((f28s0_c0 (max2i (1000 : Int) a0) (decide ((max2i (1000 : Int) a0) < a2.2.2)) a3 a2).bind fun o9 =>
 (bif (decide (a0 < (1000 : Int))) then
 ((f28s0_c1 a0 a1 (decide (a0 < o9.2.2.2)) o9.1 o9.2).bind fun o17 =>
 some (o17.2, o17.1))
 else
 some (o9.2, o9.1)))

theorem c28s0 {a0 : Int} {a1 : Int} {a2 : Int × Int × Int} {a3 : List (Int × (Int × Int × Int) × (Int × Int) × Int)} {r : (Int × Int × Int) × (List (Int × (Int × Int × Int) × (Int × Int) × Int))} (h : F28s0 a0 a1 a2 a3 = some r) : CallSt Pg 28 [(.ptr 1000000 0), (.d t2 a0), (.d t2 a1)] [(1000000, .box (.vcons (.d t36 a2) (.vcons (.vec 900001 t68) .vnil))), (900001, .vec 69 t68 a3)] (.tup .vnil) [(1000000, .box (.vcons (.d t36 r.1) (.vcons (.vec 900001 t68) .vnil))), (900001, .vec 69 t68 r.2)] := by
 refine callStN hX c_28 45 [] [] Go.Proofs.Tryz.func28 (by kernel_rfl) (by kernel_rfl) (by kernel_rfl) (Nat.le_of_ble_eq_true rfl) rfl ?_
 show Run Pg 45 c_28 ⟨[(0, .ptr 1000000 0), (1, .d t2 a0), (2, .d t2 a1)], [(1000000, .box (.vcons (.d t36 a2) (.vcons (.vec 900001 t68) .vnil))), (900001, .vec 69 t68 a3)]⟩ (fin28s0 a2 a3 r)
 unfold F28s0 at h
 refine Run.sq ?_
 refine qN [] 100 ⟨[(0, .ptr 1000000 0), (1, .d t2 a0), (2, .d t2 a1), (6, .d t2 (max2i (1000 : Int) a0))], [(900001, .vec 69 t68 a3), (1000000, .box (.vcons (.d t36 a2) (.vcons (.vec 900001 t68) .vnil)))]⟩ aN ?_
 refine qN [] 200 ⟨[(0, .ptr 1000000 0), (1, .d t2 a0), (2, .d t2 a1), (6, .d t2 (max2i (1000 : Int) a0)), (15, .d t4 (decide ((max2i (1000 : Int) a0) < a2.2.2)))], [(900001, .vec 69 t68 a3), (1000000, .box (.vcons (.d t36 a2) (.vcons (.vec 900001 t68) .vnil)))]⟩ aN ?_
 obtain ⟨o9, h_o9, h⟩ := bnd_elim h
 refine Run.mono (f28s0_c0_ok a0 a1 (max2i (1000 : Int) a0) (decide ((max2i (1000 : Int) a0) < a2.2.2)) a3 a2 h_o9) ?_
 rintro _ _ ⟨rfl, rfl⟩
 show Run Pg 45 _ _ _
 rcases bif_elim h with ⟨hb0, h⟩ | ⟨hb0, h⟩
 ·refine qN [(2, .b true)] 400 ⟨[(0, .ptr 1000000 0), (1, .d t2 a0), (2, .d t2 a1), (29, .d t4 (decide (a0 < o9.2.2.2)))], [(900001, .vec 69 t68 o9.1), (1000000, .box (.vcons (.d t36 o9.2) (.vcons (.vec 900001 t68) .vnil)))]⟩ (aC hb0 aN) ?_
  obtain ⟨o17, h_o17, h⟩ := bnd_elim h
  refine Run.mono (f28s0_c1_ok a0 a1 (decide (a0 < o9.2.2.2)) o9.1 o9.2 h_o17) ?_
  rintro _ _ ⟨rfl, rfl⟩
  obtain rfl := sI h
  exact ⟨[], ⟨[], [(1000000, .box (.vcons (.d t36 o17.2) (.vcons (.vec 900001 t68) .vnil))), (900001, .vec 69 t68 o17.1)]⟩, by kernel_rfl, by kernel_rfl, by kernel_rfl, by kernel_rfl⟩
 ·refine qN [(2, .b false)] 400 ⟨[(0, .ptr 1000000 0), (1, .d t2 a0), (2, .d t2 a1), (29, .d t4 false)], [(900001, .vec 69 t68 o9.1), (1000000, .box (.vcons (.d t36 o9.2) (.vcons (.vec 900001 t68) .vnil)))]⟩ (aC hb0 aN) ?_
  refine Run.cd false (fun hb => (by cases hb)) (fun hb => ?_)
  refine Run.sk ?_
  obtain rfl := sI h
  exact ⟨[], ⟨[], [(1000000, .box (.vcons (.d t36 o9.2) (.vcons (.vec 900001 t68) .vnil))), (900001, .vec 69 t68 o9.1)]⟩, by kernel_rfl, by kernel_rfl, by kernel_rfl, by kernel_rfl⟩

/-! ## f12 -/

noncomputable def c_12 : Code := body0 Go.Proofs.Tryz.f12

def fin12 (r : (List (Int × (Int × Int × Int) × (Int × Int) × Int)) × Int) : Ex → St → Prop := endK X0 [.tmp 10, .tmp 11] [40, 41] (.tup (.vcons (.d t40 r.1) (.vcons (.d t2 r.2) .vnil)))

def f12_c1_post (x34 : Int) (x35 : Bool) (x36 : Int × Int × Int) (x37 : Int × Int × Int) : ((Int × Int × Int) × (List (Int × (Int × Int × Int) × (Int × Int) × Int))) → Ex → St → Prop
 | o, x, s => x = .nrm ∧ s = ⟨[(13, .ptr 902 0)], [(902, .box (.vcons (.d t36 o.1) (.vcons (.vec 91403 t68) .vnil))), (91403, .vec 69 t68 o.2)]⟩

def f12_c1 (x34 : Int) (x35 : Bool) (x36 : Int × Int × Int) (x37 : Int × Int × Int) : Option ((Int × Int × Int) × (List (Int × (Int × Int × Int) × (Int × Int) × Int))) :=
 (bif x35 then
 (F26s0 x36.2.2 x37 ([] : List (Int × (Int × Int × Int) × (Int × Int) × Int))).bind fun y40 =>
 some (y40.1, y40.2)
 else
 (F28s0 x36.2.2 x34 x37 ([] : List (Int × (Int × Int × Int) × (Int × Int) × Int))).bind fun y41 =>
 some (y41.1, y41.2))

theorem f12_c1_ok (x34 : Int) (x35 : Bool) (x36 : Int × Int × Int) (x37 : Int × Int × Int) {out : ((Int × Int × Int) × (List (Int × (Int × Int × Int) × (Int × Int) × Int)))} (h : f12_c1 x34 x35 x36 x37 = some out) : Run Pg 83 (sq2 (cd2 (sq2 (bk1 (sq1 (sq2 (sq2 (sq2 (sq2 (sq2 c_12)))))))))) ⟨[(4, .d t2 x34), (7, .ptr 102 0), (13, .ptr 902 0), (72, .d t4 x35)], [(102, bx t36 x36), (902, .box (.vcons (.d t36 x37) (.vcons .nil .vnil)))]⟩ (f12_c1_post x34 x35 x36 x37 out) := by
 unfold f12_c1 at h
 refine Run.cd x35 (fun hb => ?_) (fun hb => ?_)
 ·replace h := bif_t h hb
  refine Run.nameB (s' := ⟨[(4, .d t2 x34), (7, .ptr 102 0), (13, .ptr 902 0), (72, .d t4 x35)], [(91403, .vec 69 t68 ([] : List (Int × (Int × Int × Int) × (Int × Int) × Int))), (102, bx t36 x36), (902, .box (.vcons (.d t36 x37) (.vcons (.vec 91403 t68) .vnil)))]⟩) 902 1 91403 69 t68 (by kernel_rfl) ?_
  obtain ⟨y40, h_y40, h⟩ := bnd_elim h
  refine qE [(2, .callS [(1000000, .box (.vcons (.d t36 x37) (.vcons (.vec 900001 t68) .vnil))), (900001, .vec 69 t68 ([] : List (Int × (Int × Int × Int) × (Int × Int) × Int)))] [(.ptr 1000000 0), (.d t2 x36.2.2)] [(1000000, 902), (900001, 91403)] (.tup .vnil) [(1000000, .box (.vcons (.d t36 y40.1) (.vcons (.vec 900001 t68) .vnil))), (900001, .vec 69 t68 y40.2)])] 1600 ⟨[(13, .ptr 902 0)], [(902, .box (.vcons (.d t36 y40.1) (.vcons (.vec 91403 t68) .vnil))), (91403, .vec 69 t68 y40.2)]⟩ (aC (show (([(.ptr 902 0), (.d t2 x36.2.2)] : List V) = List.map (V.ren (renL [(1000000, 902), (900001, 91403)] 1602)) [(.ptr 1000000 0), (.d t2 x36.2.2)]) from (by kernel_rfl)) (aC (c26s0 h_y40) (aC (show ((some (.box (.vcons (.d t36 x37) (.vcons (.vec 91403 t68) .vnil))) : Option E) = some (E.ren (renL [(1000000, 902), (900001, 91403)] 1602) (.box (.vcons (.d t36 x37) (.vcons (.vec 900001 t68) .vnil))))) from (by kernel_rfl)) (aC (show ((some (.vec 69 t68 ([] : List (Int × (Int × Int × Int) × (Int × Int) × Int))) : Option E) = some (E.ren (renL [(1000000, 902), (900001, 91403)] 1602) (.vec 69 t68 ([] : List (Int × (Int × Int × Int) × (Int × Int) × Int))))) from (by kernel_rfl)) aN)))) ?_
  obtain rfl := sI h
  exact ⟨rfl, by kernel_rfl⟩
 ·replace h := bif_f h hb
  refine Run.nameB (s' := ⟨[(4, .d t2 x34), (7, .ptr 102 0), (13, .ptr 902 0), (72, .d t4 x35)], [(91403, .vec 69 t68 ([] : List (Int × (Int × Int × Int) × (Int × Int) × Int))), (102, bx t36 x36), (902, .box (.vcons (.d t36 x37) (.vcons (.vec 91403 t68) .vnil)))]⟩) 902 1 91403 69 t68 (by kernel_rfl) ?_
  obtain ⟨y41, h_y41, h⟩ := bnd_elim h
  refine qE [(3, .callS [(1000000, .box (.vcons (.d t36 x37) (.vcons (.vec 900001 t68) .vnil))), (900001, .vec 69 t68 ([] : List (Int × (Int × Int × Int) × (Int × Int) × Int)))] [(.ptr 1000000 0), (.d t2 x36.2.2), (.d t2 x34)] [(1000000, 902), (900001, 91403)] (.tup .vnil) [(1000000, .box (.vcons (.d t36 y41.1) (.vcons (.vec 900001 t68) .vnil))), (900001, .vec 69 t68 y41.2)])] 1000 ⟨[(13, .ptr 902 0)], [(902, .box (.vcons (.d t36 y41.1) (.vcons (.vec 91403 t68) .vnil))), (91403, .vec 69 t68 y41.2)]⟩ (aC (show (([(.ptr 902 0), (.d t2 x36.2.2), (.d t2 x34)] : List V) = List.map (V.ren (renL [(1000000, 902), (900001, 91403)] 1003)) [(.ptr 1000000 0), (.d t2 x36.2.2), (.d t2 x34)]) from (by kernel_rfl)) (aC (c28s0 h_y41) (aC (show ((some (.box (.vcons (.d t36 x37) (.vcons (.vec 91403 t68) .vnil))) : Option E) = some (E.ren (renL [(1000000, 902), (900001, 91403)] 1003) (.box (.vcons (.d t36 x37) (.vcons (.vec 900001 t68) .vnil))))) from (by kernel_rfl)) (aC (show ((some (.vec 69 t68 ([] : List (Int × (Int × Int × Int) × (Int × Int) × Int))) : Option E) = some (E.ren (renL [(1000000, 902), (900001, 91403)] 1003) (.vec 69 t68 ([] : List (Int × (Int × Int × Int) × (Int × Int) × Int))))) from (by kernel_rfl)) aN)))) ?_
  obtain rfl := sI h
  exact ⟨rfl, by kernel_rfl⟩

def f12_c0_post (x5 : Int) (x6 : Int) (x7 : Bool) (x8 : Int × Int × Int × Int × Int × Int × (List (Int × Int × Int × Int × Int)) × Int) (x9 : Int × Int × Int) (x10 : Int × Int × Int) : ((Int × Int × Int) × (List (Int × (Int × Int × Int) × (Int × Int) × Int))) → Ex → St → Prop
 | o, x, s => x = .nrm ∧ s = ⟨[(13, .ptr 902 0)], [(902, .box (.vcons (.d t36 o.1) (.vcons (.vec 91403 t68) .vnil))), (91403, .vec 69 t68 o.2)]⟩

def f12_c0 (x5 : Int) (x6 : Int) (x7 : Bool) (x8 : Int × Int × Int × Int × Int × Int × (List (Int × Int × Int × Int × Int)) × Int) (x9 : Int × Int × Int) (x10 : Int × Int × Int) : Option ((Int × Int × Int) × (List (Int × (Int × Int × Int) × (Int × Int) × Int))) :=
 (bif x7 then
 (F25 x9).bind fun y27 =>
 (F25 x10).bind fun y28 =>
 (F9 x8 y27 y28 x5).bind fun y29 =>
 (F26s0 (max2i (max2i y29 x9.2.2) x10.2.2) x9 ([] : List (Int × (Int × Int × Int) × (Int × Int) × Int))).bind fun y30 =>
 (F25 x10).bind fun y31 =>
 (F27s0 y31 y30.1 y30.2).bind fun y32 =>
 (F28s0 x10.2.2 x6 y32.1 y32.2).bind fun y33 =>
 some (y33.1, y33.2)
 else
 ((f12_c1 x6 (decide (x9.2.2 < x10.2.2)) x10 x9).bind fun o42 =>
 some (o42.1, o42.2)))

theorem f12_c0_ok (x5 : Int) (x6 : Int) (x7 : Bool) (x8 : Int × Int × Int × Int × Int × Int × (List (Int × Int × Int × Int × Int)) × Int) (x9 : Int × Int × Int) (x10 : Int × Int × Int) {out : ((Int × Int × Int) × (List (Int × (Int × Int × Int) × (Int × Int) × Int)))} (h : f12_c0 x5 x6 x7 x8 x9 x10 = some out) : Run Pg 83 (sq2 (bk1 (sq1 (sq2 (sq2 (sq2 (sq2 (sq2 c_12)))))))) ⟨[(3, .d t2 x5), (4, .d t2 x6), (5, .ptr 100 0), (6, .ptr 101 0), (7, .ptr 102 0), (13, .ptr 902 0), (46, .d t4 x7)], [(100, bx t23 x8), (101, bx t36 x9), (102, bx t36 x10), (902, .box (.vcons (.d t36 x9) (.vcons .nil .vnil)))]⟩ (f12_c0_post x5 x6 x7 x8 x9 x10 out) := by
 unfold f12_c0 at h
 refine Run.cd x7 (fun hb => ?_) (fun hb => ?_)
 ·replace h := bif_t h hb
  refine Run.nameB (s' := ⟨[(3, .d t2 x5), (4, .d t2 x6), (5, .ptr 100 0), (6, .ptr 101 0), (7, .ptr 102 0), (13, .ptr 902 0), (46, .d t4 x7)], [(91403, .vec 69 t68 ([] : List (Int × (Int × Int × Int) × (Int × Int) × Int))), (100, bx t23 x8), (101, bx t36 x9), (102, bx t36 x10), (902, .box (.vcons (.d t36 x9) (.vcons (.vec 91403 t68) .vnil)))]⟩) 902 1 91403 69 t68 (by kernel_rfl) ?_
  obtain ⟨y27, h_y27, h⟩ := bnd_elim h
  obtain ⟨y28, h_y28, h⟩ := bnd_elim h
  obtain ⟨y29, h_y29, h⟩ := bnd_elim h
  obtain ⟨y30, h_y30, h⟩ := bnd_elim h
  refine qN [(2, .call (.d t25 y27)), (4, .call (.d t25 y28)), (6, .call (.d t2 y29)), (12, .callS [(1000000, .box (.vcons (.d t36 x9) (.vcons (.vec 900001 t68) .vnil))), (900001, .vec 69 t68 ([] : List (Int × (Int × Int × Int) × (Int × Int) × Int)))] [(.ptr 1000000 0), (.d t2 (max2i (max2i y29 x9.2.2) x10.2.2))] [(1000000, 902), (900001, 91403)] (.tup .vnil) [(1000000, .box (.vcons (.d t36 y30.1) (.vcons (.vec 900001 t68) .vnil))), (900001, .vec 69 t68 y30.2)])] 1200 ⟨[(4, .d t2 x6), (7, .ptr 102 0), (13, .ptr 902 0)], [(102, bx t36 x10), (902, .box (.vcons (.d t36 y30.1) (.vcons (.vec 91403 t68) .vnil))), (91403, .vec 69 t68 y30.2)]⟩ (aC (c25 h_y27) (aC (c25 h_y28) (aC (c9 h_y29) (aC (show (([(.ptr 902 0), (.d t2 (max2i (max2i y29 x9.2.2) x10.2.2))] : List V) = List.map (V.ren (renL [(1000000, 902), (900001, 91403)] 1212)) [(.ptr 1000000 0), (.d t2 (max2i (max2i y29 x9.2.2) x10.2.2))]) from (by kernel_rfl)) (aC (c26s0 h_y30) (aC (show ((some (.box (.vcons (.d t36 x9) (.vcons (.vec 91403 t68) .vnil))) : Option E) = some (E.ren (renL [(1000000, 902), (900001, 91403)] 1212) (.box (.vcons (.d t36 x9) (.vcons (.vec 900001 t68) .vnil))))) from (by kernel_rfl)) (aC (show ((some (.vec 69 t68 ([] : List (Int × (Int × Int × Int) × (Int × Int) × Int))) : Option E) = some (E.ren (renL [(1000000, 902), (900001, 91403)] 1212) (.vec 69 t68 ([] : List (Int × (Int × Int × Int) × (Int × Int) × Int))))) from (by kernel_rfl)) aN))))))) ?_
  obtain ⟨y31, h_y31, h⟩ := bnd_elim h
  obtain ⟨y32, h_y32, h⟩ := bnd_elim h
  refine qN [(1, .call (.d t25 y31)), (2, .callS [(1000000, .box (.vcons (.d t36 y30.1) (.vcons (.vec 900001 t68) .vnil))), (900001, .vec 69 t68 y30.2)] [(.ptr 1000000 0), (.d t25 y31)] [(1000000, 902), (900001, 91403)] (.tup .vnil) [(1000000, .box (.vcons (.d t36 y32.1) (.vcons (.vec 900001 t68) .vnil))), (900001, .vec 69 t68 y32.2)])] 1300 ⟨[(4, .d t2 x6), (7, .ptr 102 0), (13, .ptr 902 0)], [(102, bx t36 x10), (902, .box (.vcons (.d t36 y32.1) (.vcons (.vec 91403 t68) .vnil))), (91403, .vec 69 t68 y32.2)]⟩ (aC (c25 h_y31) (aC (show (([(.ptr 902 0), (.d t25 y31)] : List V) = List.map (V.ren (renL [(1000000, 902), (900001, 91403)] 1302)) [(.ptr 1000000 0), (.d t25 y31)]) from (by kernel_rfl)) (aC (c27s0 h_y32) (aC (show ((some (.box (.vcons (.d t36 y30.1) (.vcons (.vec 91403 t68) .vnil))) : Option E) = some (E.ren (renL [(1000000, 902), (900001, 91403)] 1302) (.box (.vcons (.d t36 y30.1) (.vcons (.vec 900001 t68) .vnil))))) from (by kernel_rfl)) (aC (show ((some (.vec 69 t68 y30.2) : Option E) = some (E.ren (renL [(1000000, 902), (900001, 91403)] 1302) (.vec 69 t68 y30.2))) from (by kernel_rfl)) aN))))) ?_
  obtain ⟨y33, h_y33, h⟩ := bnd_elim h
  refine qE [(3, .callS [(1000000, .box (.vcons (.d t36 y32.1) (.vcons (.vec 900001 t68) .vnil))), (900001, .vec 69 t68 y32.2)] [(.ptr 1000000 0), (.d t2 x10.2.2), (.d t2 x6)] [(1000000, 902), (900001, 91403)] (.tup .vnil) [(1000000, .box (.vcons (.d t36 y33.1) (.vcons (.vec 900001 t68) .vnil))), (900001, .vec 69 t68 y33.2)])] 1400 ⟨[(13, .ptr 902 0)], [(902, .box (.vcons (.d t36 y33.1) (.vcons (.vec 91403 t68) .vnil))), (91403, .vec 69 t68 y33.2)]⟩ (aC (show (([(.ptr 902 0), (.d t2 x10.2.2), (.d t2 x6)] : List V) = List.map (V.ren (renL [(1000000, 902), (900001, 91403)] 1403)) [(.ptr 1000000 0), (.d t2 x10.2.2), (.d t2 x6)]) from (by kernel_rfl)) (aC (c28s0 h_y33) (aC (show ((some (.box (.vcons (.d t36 y32.1) (.vcons (.vec 91403 t68) .vnil))) : Option E) = some (E.ren (renL [(1000000, 902), (900001, 91403)] 1403) (.box (.vcons (.d t36 y32.1) (.vcons (.vec 900001 t68) .vnil))))) from (by kernel_rfl)) (aC (show ((some (.vec 69 t68 y32.2) : Option E) = some (E.ren (renL [(1000000, 902), (900001, 91403)] 1403) (.vec 69 t68 y32.2))) from (by kernel_rfl)) aN)))) ?_
  obtain rfl := sI h
  exact ⟨rfl, by kernel_rfl⟩
 ·replace h := bif_f h hb
  refine qN [] 1500 ⟨[(4, .d t2 x6), (7, .ptr 102 0), (13, .ptr 902 0), (72, .d t4 (decide (x9.2.2 < x10.2.2)))], [(102, bx t36 x10), (902, .box (.vcons (.d t36 x9) (.vcons .nil .vnil)))]⟩ aN ?_
  obtain ⟨o42, h_o42, h⟩ := bnd_elim h
  refine Run.mono (f12_c1_ok x6 (decide (x9.2.2 < x10.2.2)) x10 x9 h_o42) ?_
  rintro _ _ ⟨rfl, rfl⟩
  obtain rfl := sI h
  exact ⟨rfl, by kernel_rfl⟩

def F12 (a0 : Int × Int × Int × Int × Int × Int × (List (Int × Int × Int × Int × Int)) × Int) (a1 : Int × Int × Int) (a2 : Int × Int × Int) (a3 : Int) (a4 : Int) : Option ((List (Int × (Int × Int × Int) × (Int × Int) × Int)) × Int) :=
 (F23 a0).bind fun y1 =>
 (bif (y1 != (0 : Int)) then
 some (([] : List (Int × (Int × Int × Int) × (Int × Int) × Int)), y1)
 else
 (bif (decide (a3 < (0 : Int))) then
 some (([] : List (Int × (Int × Int × Int) × (Int × Int) × Int)), (1 : Int))
 else
 (bif (decide (a4 ≤ (0 : Int))) then
 some (([] : List (Int × (Int × Int × Int) × (Int × Int) × Int)), (1 : Int))
 else
 (F24 ([a1.1, a1.2.1, a1.2.2, a2.1, a2.2.1, a2.2.2, a3] : List Int)).bind fun y2 =>
 (bif y2 then
 some (([] : List (Int × (Int × Int × Int) × (Int × Int) × Int)), (11 : Int))
 else
 (F25 a1).bind fun y3 =>
 (F25 a2).bind fun y4 =>
 ((f12_c0 a3 a4 (!(eqD t25 y3 y4)) a0 a1 a2).bind fun o43 =>
 some (o43.2, (0 : Int)))))))

theorem c12 {a0 : Int × Int × Int × Int × Int × Int × (List (Int × Int × Int × Int × Int)) × Int} {a1 : Int × Int × Int} {a2 : Int × Int × Int} {a3 : Int} {a4 : Int} {r : (List (Int × (Int × Int × Int) × (Int × Int) × Int)) × Int} (h : F12 a0 a1 a2 a3 a4 = some r) : CallPure Pg 12 [(.d t23 a0), (.d t36 a1), (.d t36 a2), (.d t2 a3), (.d t2 a4)] (.tup (.vcons (.d t40 r.1) (.vcons (.d t2 r.2) .vnil))) := by
 refine qC c_12 83 [.tmp 10, .tmp 11] [40, 41] Go.Proofs.Tryz.func12 ?_
 show Run Pg 83 c_12 ⟨[(0, .d t23 a0), (1, .d t36 a1), (2, .d t36 a2), (3, .d t2 a3), (4, .d t2 a4)], []⟩ (fin12 r)
 unfold F12 at h
 refine qN [] 100 ⟨[(3, .d t2 a3), (4, .d t2 a4), (5, .ptr 100 0), (6, .ptr 101 0), (7, .ptr 102 0)], [(100, bx t23 a0), (101, bx t36 a1), (102, bx t36 a2)]⟩ aN ?_
 refine Run.sq ?_
 obtain ⟨y1, h_y1, h⟩ := bnd_elim h
 refine qN [(1, .call (.d t2 y1))] 200 ⟨[(3, .d t2 a3), (4, .d t2 a4), (5, .ptr 100 0), (6, .ptr 101 0), (7, .ptr 102 0), (12, .d t2 y1)], [(100, bx t23 a0), (101, bx t36 a1), (102, bx t36 a2)]⟩ (aC (c23 h_y1) aN) ?_
 refine qN [] 300 ⟨[(3, .d t2 a3), (4, .d t2 a4), (5, .ptr 100 0), (6, .ptr 101 0), (7, .ptr 102 0), (12, .d t2 y1), (17, .d t4 (y1 != (0 : Int)))], [(100, bx t23 a0), (101, bx t36 a1), (102, bx t36 a2)]⟩ aN ?_
 refine Run.cd (y1 != (0 : Int)) (fun hb => ?_) (fun hb => ?_)
 ·replace h := bif_t h hb
  refine qN [] 400 ⟨[(10, .nil), (11, .d t2 y1)], []⟩ aN ?_
  refine Run.rt ?_
  obtain rfl := sI h
  exact qR [(.d t40 ([] : List (Int × (Int × Int × Int) × (Int × Int) × Int))), (.d t2 y1)]
 ·replace h := bif_f h hb
  refine Run.sk ?_
  show Run Pg 83 _ _ _
  refine Run.sq ?_
  rcases bif_elim h with ⟨hb0, h⟩ | ⟨hb0, h⟩
  ·refine qN [(2, .b true)] 500 ⟨[(3, .d t2 a3), (4, .d t2 a4), (5, .ptr 100 0), (6, .ptr 101 0), (7, .ptr 102 0), (24, .d t4 true)], [(100, bx t23 a0), (101, bx t36 a1), (102, bx t36 a2)]⟩ (aC hb0 aN) ?_
   refine Run.cd true (fun hb => ?_) (fun hb => (by cases hb))
   refine qN [] 600 ⟨[(10, .nil), (11, .d t2 (1 : Int))], []⟩ aN ?_
   refine Run.rt ?_
   obtain rfl := sI h
   exact qR [(.d t40 ([] : List (Int × (Int × Int × Int) × (Int × Int) × Int))), (.d t2 (1 : Int))]
  ·refine qN [(2, .b false)] 500 ⟨[(3, .d t2 a3), (4, .d t2 a4), (5, .ptr 100 0), (6, .ptr 101 0), (7, .ptr 102 0), (24, .d t4 (decide (a4 ≤ (0 : Int))))], [(100, bx t23 a0), (101, bx t36 a1), (102, bx t36 a2)]⟩ (aC hb0 aN) ?_
   refine Run.cd (decide (a4 ≤ (0 : Int))) (fun hb => ?_) (fun hb => ?_)
   ·replace h := bif_t h hb
    refine qN [] 600 ⟨[(10, .nil), (11, .d t2 (1 : Int))], []⟩ aN ?_
    refine Run.rt ?_
    obtain rfl := sI h
    exact qR [(.d t40 ([] : List (Int × (Int × Int × Int) × (Int × Int) × Int))), (.d t2 (1 : Int))]
   ·replace h := bif_f h hb
    refine Run.sk ?_
    show Run Pg 83 _ _ _
    refine Run.sq ?_
    obtain ⟨y2, h_y2, h⟩ := bnd_elim h
    refine qN [(14, .call (.d t4 y2))] 700 ⟨[(3, .d t2 a3), (4, .d t2 a4), (5, .ptr 100 0), (6, .ptr 101 0), (7, .ptr 102 0), (39, .d t4 y2)], [(100, bx t23 a0), (101, bx t36 a1), (102, bx t36 a2)]⟩ (aC (c24 h_y2) aN) ?_
    refine Run.cd y2 (fun hb => ?_) (fun hb => ?_)
    ·replace h := bif_t h hb
     refine qN [] 800 ⟨[(10, .nil), (11, .d t2 (11 : Int))], []⟩ aN ?_
     refine Run.rt ?_
     obtain rfl := sI h
     exact qR [(.d t40 ([] : List (Int × (Int × Int × Int) × (Int × Int) × Int))), (.d t2 (11 : Int))]
    ·replace h := bif_f h hb
     refine Run.sk ?_
     show Run Pg 83 _ _ _
     refine qN [(1, .part)] 900 ⟨[(3, .d t2 a3), (4, .d t2 a4), (5, .ptr 100 0), (6, .ptr 101 0), (7, .ptr 102 0), (13, .ptr 902 0)], [(100, bx t23 a0), (101, bx t36 a1), (102, bx t36 a2), (902, .box (.vcons (.d t36 a1) (.vcons .nil .vnil)))]⟩ aN ?_
     refine Run.sq ?_
     refine Run.bl 0 ?_
     obtain ⟨y3, h_y3, h⟩ := bnd_elim h
     obtain ⟨y4, h_y4, h⟩ := bnd_elim h
     refine qN [(1, .call (.d t25 y3)), (3, .call (.d t25 y4))] 1100 ⟨[(3, .d t2 a3), (4, .d t2 a4), (5, .ptr 100 0), (6, .ptr 101 0), (7, .ptr 102 0), (13, .ptr 902 0), (46, .d t4 (!(eqD t25 y3 y4)))], [(100, bx t23 a0), (101, bx t36 a1), (102, bx t36 a2), (902, .box (.vcons (.d t36 a1) (.vcons .nil .vnil)))]⟩ (aC (c25 h_y3) (aC (c25 h_y4) aN)) ?_
     obtain ⟨o43, h_o43, h⟩ := bnd_elim h
     refine Run.mono (f12_c0_ok a3 a4 (!(eqD t25 y3 y4)) a0 a1 a2 h_o43) ?_
     rintro _ _ ⟨rfl, rfl⟩
     show Run Pg 83 _ _ _
     refine qN [] 1700 ⟨[(10, .vec 91403 t68), (11, .d t2 (0 : Int))], [(91403, .vec 69 t68 o43.2)]⟩ aN ?_
     refine Run.freeze (s' := ⟨[(10, .d t40 o43.2), (11, .d t2 (0 : Int))], []⟩) 91403 (by kernel_rfl) ?_
     refine Run.rt ?_
     obtain rfl := sI h
     exact qR [(.d t40 o43.2), (.d t2 (0 : Int))]

/-! ## f45 -/

noncomputable def c_45 : Code := body0 Go.Proofs.Tryz.f45

def fin45 (r : Bool) : Ex → St → Prop := endK X0 [.tmp 4] [4] (.d t4 r)

def F45 (a0 : Int) (a1 : Int) : Option (Bool) :=
 (bif (decide (a1 ≤ a0)) then
 some (decide (a0 ≤ (10000000 : Int)))
 else
 some false)

theorem c45 {a0 : Int} {a1 : Int} {r : Bool} (h : F45 a0 a1 = some r) : CallPure Pg 45 [(.d t2 a0), (.d t2 a1)] (.d t4 r) := by
 refine qC c_45 12 [.tmp 4] [4] Go.Proofs.Tryz.func45 ?_
 show Run Pg 12 c_45 ⟨[(0, .d t2 a0), (1, .d t2 a1)], []⟩ (fin45 r)
 unfold F45 at h
 refine qN [] 100 ⟨[(0, .d t2 a0), (1, .d t2 a1)], []⟩ aN ?_
 rcases bif_elim h with ⟨hb0, h⟩ | ⟨hb0, h⟩
 ·refine qN [(3, .b true)] 200 ⟨[(4, .d t4 (decide (a0 ≤ (10000000 : Int))))], []⟩ (aC hb0 aN) ?_
  refine Run.rt ?_
  obtain rfl := sI h
  exact qR [(.d t4 (decide (a0 ≤ (10000000 : Int))))]
 ·refine qN [(3, .b false)] 200 ⟨[(4, .d t4 false)], []⟩ (aC hb0 aN) ?_
  refine Run.rt ?_
  obtain rfl := sI h
  exact qR [(.d t4 false)]

/-! ## f44 -/

noncomputable def c_44 : Code := body0 Go.Proofs.Tryz.f44

def fin44 (r : Bool) : Ex → St → Prop := endK X0 [.tmp 8] [4] (.d t4 r)

def F44 (a0 : Int) (a1 : Int) (a2 : Int) (a3 : Int) : Option (Bool) :=
 (F45 a0 (-10000000 : Int)).bind fun y1 =>
 (bif y1 then
 (F45 a1 (-10000000 : Int)).bind fun y2 =>
 (bif y2 then
 (F45 a2 (-10000000 : Int)).bind fun y3 =>
 (bif y3 then
 (F45 a3 (-10000000 : Int)).bind fun y4 =>
 (bif y4 then
 (bif (decide (a0 < a2)) then
 some (decide (a1 < a3))
 else
 some false)
 else
 some false)
 else
 some false)
 else
 some false)
 else
 some false)

theorem c44 {a0 : Int} {a1 : Int} {a2 : Int} {a3 : Int} {r : Bool} (h : F44 a0 a1 a2 a3 = some r) : CallPure Pg 44 [(.d t2 a0), (.d t2 a1), (.d t2 a2), (.d t2 a3)] (.d t4 r) := by
 refine qC c_44 38 [.tmp 8] [4] Go.Proofs.Tryz.func44 ?_
 show Run Pg 38 c_44 ⟨[(0, .d t2 a0), (1, .d t2 a1), (2, .d t2 a2), (3, .d t2 a3)], []⟩ (fin44 r)
 unfold F44 at h
 refine qN [] 100 ⟨[(0, .d t2 a0), (1, .d t2 a1), (2, .d t2 a2), (3, .d t2 a3)], []⟩ aN ?_
 refine qN [] 200 ⟨[(0, .d t2 a0), (1, .d t2 a1), (2, .d t2 a2), (3, .d t2 a3), (9, .d t2 (-10000000 : Int))], []⟩ aN ?_
 obtain ⟨y1, h_y1, h⟩ := bnd_elim h
 rcases bif_elim h with ⟨hb1, h⟩ | ⟨hb1, h⟩
 ·obtain ⟨y2, h_y2, h⟩ := bnd_elim h
  rcases bif_elim h with ⟨hb3, h⟩ | ⟨hb3, h⟩
  ·obtain ⟨y3, h_y3, h⟩ := bnd_elim h
   rcases bif_elim h with ⟨hb5, h⟩ | ⟨hb5, h⟩
   ·obtain ⟨y4, h_y4, h⟩ := bnd_elim h
    rcases bif_elim h with ⟨hb7, h⟩ | ⟨hb7, h⟩
    ·rcases bif_elim h with ⟨hb8, h⟩ | ⟨hb8, h⟩
     ·refine qN [(2, .call (.d t4 y1)), (3, .b true), (6, .call (.d t4 y2)), (8, .b true), (11, .call (.d t4 y3)), (13, .b true), (16, .call (.d t4 y4)), (18, .b true), (23, .b true)] 300 ⟨[(8, .d t4 (decide (a1 < a3)))], []⟩ (aC (c45 h_y1) (aC hb1 (aC (c45 h_y2) (aC hb3 (aC (c45 h_y3) (aC hb5 (aC (c45 h_y4) (aC hb7 (aC hb8 aN))))))))) ?_
      refine Run.rt ?_
      obtain rfl := sI h
      exact qR [(.d t4 (decide (a1 < a3)))]
     ·refine qN [(2, .call (.d t4 y1)), (3, .b true), (6, .call (.d t4 y2)), (8, .b true), (11, .call (.d t4 y3)), (13, .b true), (16, .call (.d t4 y4)), (18, .b true), (23, .b false)] 300 ⟨[(8, .d t4 false)], []⟩ (aC (c45 h_y1) (aC hb1 (aC (c45 h_y2) (aC hb3 (aC (c45 h_y3) (aC hb5 (aC (c45 h_y4) (aC hb7 (aC hb8 aN))))))))) ?_
      refine Run.rt ?_
      obtain rfl := sI h
      exact qR [(.d t4 false)]
    ·refine qN [(2, .call (.d t4 y1)), (3, .b true), (6, .call (.d t4 y2)), (8, .b true), (11, .call (.d t4 y3)), (13, .b true), (16, .call (.d t4 y4)), (18, .b false)] 300 ⟨[(8, .d t4 false)], []⟩ (aC (c45 h_y1) (aC hb1 (aC (c45 h_y2) (aC hb3 (aC (c45 h_y3) (aC hb5 (aC (c45 h_y4) (aC hb7 aN)))))))) ?_
     refine Run.rt ?_
     obtain rfl := sI h
     exact qR [(.d t4 false)]
   ·refine qN [(2, .call (.d t4 y1)), (3, .b true), (6, .call (.d t4 y2)), (8, .b true), (11, .call (.d t4 y3)), (13, .b false)] 300 ⟨[(8, .d t4 false)], []⟩ (aC (c45 h_y1) (aC hb1 (aC (c45 h_y2) (aC hb3 (aC (c45 h_y3) (aC hb5 aN)))))) ?_
    refine Run.rt ?_
    obtain rfl := sI h
    exact qR [(.d t4 false)]
  ·refine qN [(2, .call (.d t4 y1)), (3, .b true), (6, .call (.d t4 y2)), (8, .b false)] 300 ⟨[(8, .d t4 false)], []⟩ (aC (c45 h_y1) (aC hb1 (aC (c45 h_y2) (aC hb3 aN)))) ?_
   refine Run.rt ?_
   obtain rfl := sI h
   exact qR [(.d t4 false)]
 ·refine qN [(2, .call (.d t4 y1)), (3, .b false)] 300 ⟨[(8, .d t4 false)], []⟩ (aC (c45 h_y1) (aC hb1 aN)) ?_
  refine Run.rt ?_
  obtain rfl := sI h
  exact qR [(.d t4 false)]

/-! ## f20 -/

noncomputable def c_20 : Code := body0 Go.Proofs.Tryz.f20

def fin20 (r : Int) : Ex → St → Prop := endK X0 [.tmp 2] [41] (.d t2 r)

def f20_l0_post (x4 : Int × Int × Int × Int × Int × Int × (List (Int × Int × Int × Int × Int)) × Int) : (Bool) → Ex → St → Prop
 | o, x, s => x = .out 0 ∧ s = ⟨[(3, .d t4 o)], []⟩

def f20_l0_b (x4 : Int × Int × Int × Int × Int × Int × (List (Int × Int × Int × Int × Int)) × Int) (again : Bool × Int → Option (Bool)) : Bool × Int → Option (Bool)
 | (x2, x3) =>
 (bif (decide (x3 < (ofN (List.length x4.2.2.2.2.2.2.1)))) then
 (bif x2 then
 gd (0 ≤ x3) <|
 gd (x3 < ((List.length x4.2.2.2.2.2.2.1 : Nat) : Int)) <|
 (F44 (List.getD x4.2.2.2.2.2.2.1 (toN x3) ((0 : Int), (0 : Int), (0 : Int), (0 : Int), (0 : Int))).1 (List.getD x4.2.2.2.2.2.2.1 (toN x3) ((0 : Int), (0 : Int), (0 : Int), (0 : Int), (0 : Int))).2.1 (List.getD x4.2.2.2.2.2.2.1 (toN x3) ((0 : Int), (0 : Int), (0 : Int), (0 : Int), (0 : Int))).2.2.1 (List.getD x4.2.2.2.2.2.2.1 (toN x3) ((0 : Int), (0 : Int), (0 : Int), (0 : Int), (0 : Int))).2.2.2.1).bind fun y6 =>
 (bif y6 then
 (F45 (List.getD x4.2.2.2.2.2.2.1 (toN x3) ((0 : Int), (0 : Int), (0 : Int), (0 : Int), (0 : Int))).2.2.2.2 (max2i (wrapI .i64 ((wrapI .i64 (0 - x4.2.2.2.2.1)) - x4.2.2.2.2.2.1)) (-10000000 : Int))).bind fun y7 =>
 (bif y7 then
 again ((decide ((List.getD x4.2.2.2.2.2.2.1 (toN x3) ((0 : Int), (0 : Int), (0 : Int), (0 : Int), (0 : Int))).2.2.2.2 < x4.2.2.2.2.2.2.2)), (wrapI .i64 (x3 + (1 : Int))))
 else
 again (false, (wrapI .i64 (x3 + (1 : Int)))))
 else
 again (false, (wrapI .i64 (x3 + (1 : Int)))))
 else
 some x2)
 else
 some x2)

def f20_l0 (x4 : Int × Int × Int × Int × Int × Int × (List (Int × Int × Int × Int × Int)) × Int) : Nat → Bool × Int → Option (Bool) := loopF (f20_l0_b x4)

theorem f20_l0_ok (x4 : Int × Int × Int × Int × Int × Int × (List (Int × Int × Int × Int × Int)) × Int) (k : Nat) (x2 : Bool) (x3 : Int) {out : (Bool)} (h : f20_l0 x4 k (x2, x3) = some out) : Run Pg 81 (bk1 (sq2 (sq1 (sq2 (sq2 c_20))))) ⟨[(1, .ptr 100 0), (3, .d t4 x2), (4, .d t2 x3)], [(100, bx t23 x4)]⟩ (f20_l0_post x4 out) := by
 refine Run.loopN (by kernel_rfl) (fun m s => ∃ x2 x3, s = ⟨[(1, .ptr 100 0), (3, .d t4 x2), (4, .d t2 x3)], [(100, bx t23 x4)]⟩ ∧ f20_l0 x4 m (x2, x3) = some out) ?_ k ⟨x2, x3,  rfl, h⟩
 rintro m s ⟨x2, x3,  rfl, h⟩
 cases m with
 | zero => cases h
 | succ m =>
 replace h : f20_l0_b x4 (f20_l0 x4 m) (x2, x3) = some out := h
 unfold f20_l0_b at h
 refine Run.sq ?_
 rcases bif_elim h with ⟨hb0, h⟩ | ⟨hb0, h⟩
 ·refine qN [(5, .b true)] 400 ⟨[(1, .ptr 100 0), (3, .d t4 x2), (4, .d t2 x3), (43, .d t4 x2)], [(100, bx t23 x4)]⟩ (aC hb0 aN) ?_
  refine Run.cd x2 (fun hb => ?_) (fun hb => ?_)
  ·replace h := bif_t h hb
   refine Run.sk ?_
   show Run Pg 81 _ _ _
   refine Run.sq ?_
   refine Run.bl 1 ?_
   obtain ⟨g_0, h⟩ := gd_elim h
   obtain ⟨g_1, h⟩ := gd_elim h
   refine qN [] 600 ⟨[(1, .ptr 100 0), (4, .d t2 x3), (5, .ptr 605 0)], [(100, bx t23 x4), (605, bx t33 (List.getD x4.2.2.2.2.2.2.1 (toN x3) ((0 : Int), (0 : Int), (0 : Int), (0 : Int), (0 : Int))))]⟩ (aC g_0 (aC g_1 aN)) ?_
   obtain ⟨y6, h_y6, h⟩ := bnd_elim h
   rcases bif_elim h with ⟨hb1, h⟩ | ⟨hb1, h⟩
   ·obtain ⟨y7, h_y7, h⟩ := bnd_elim h
    rcases bif_elim h with ⟨hb3, h⟩ | ⟨hb3, h⟩
    ·refine qE [(8, .call (.d t4 y6)), (9, .b true), (19, .call (.d t4 y7)), (21, .b true)] 700 ⟨[(1, .ptr 100 0), (3, .d t4 (decide ((List.getD x4.2.2.2.2.2.2.1 (toN x3) ((0 : Int), (0 : Int), (0 : Int), (0 : Int), (0 : Int))).2.2.2.2 < x4.2.2.2.2.2.2.2))), (4, .d t2 x3)], [(100, bx t23 x4)]⟩ (aC (c44 h_y6) (aC hb1 (aC (c45 h_y7) (aC hb3 aN)))) ?_
     show Run Pg 81 _ _ _
     refine qE [] 500 ⟨[(1, .ptr 100 0), (3, .d t4 (decide ((List.getD x4.2.2.2.2.2.2.1 (toN x3) ((0 : Int), (0 : Int), (0 : Int), (0 : Int), (0 : Int))).2.2.2.2 < x4.2.2.2.2.2.2.2))), (4, .d t2 (wrapI .i64 (x3 + (1 : Int))))], [(100, bx t23 x4)]⟩ aN ?_
     exact ⟨m, Nat.lt_succ_self m, _, _, rfl, h⟩
    ·refine qE [(8, .call (.d t4 y6)), (9, .b true), (19, .call (.d t4 y7)), (21, .b false)] 700 ⟨[(1, .ptr 100 0), (3, .d t4 false), (4, .d t2 x3)], [(100, bx t23 x4)]⟩ (aC (c44 h_y6) (aC hb1 (aC (c45 h_y7) (aC hb3 aN)))) ?_
     show Run Pg 81 _ _ _
     refine qE [] 500 ⟨[(1, .ptr 100 0), (3, .d t4 false), (4, .d t2 (wrapI .i64 (x3 + (1 : Int))))], [(100, bx t23 x4)]⟩ aN ?_
     exact ⟨m, Nat.lt_succ_self m, _, _, rfl, h⟩
   ·refine qE [(8, .call (.d t4 y6)), (9, .b false)] 700 ⟨[(1, .ptr 100 0), (3, .d t4 false), (4, .d t2 x3)], [(100, bx t23 x4)]⟩ (aC (c44 h_y6) (aC hb1 aN)) ?_
    show Run Pg 81 _ _ _
    refine qE [] 500 ⟨[(1, .ptr 100 0), (3, .d t4 false), (4, .d t2 (wrapI .i64 (x3 + (1 : Int))))], [(100, bx t23 x4)]⟩ aN ?_
    exact ⟨m, Nat.lt_succ_self m, _, _, rfl, h⟩
  ·replace h := bif_f h hb
   refine qK ⟨[(3, .d t4 x2)], []⟩ ?_
   refine Run.ex 0 ?_
   obtain rfl := sI h
   exact ⟨rfl, by kernel_rfl⟩
 ·refine qN [(5, .b false)] 400 ⟨[(1, .ptr 100 0), (3, .d t4 x2), (4, .d t2 x3), (43, .d t4 false)], [(100, bx t23 x4)]⟩ (aC hb0 aN) ?_
  refine Run.cd false (fun hb => (by cases hb)) (fun hb => ?_)
  refine qK ⟨[(3, .d t4 x2)], []⟩ ?_
  refine Run.ex 0 ?_
  obtain rfl := sI h
  exact ⟨rfl, by kernel_rfl⟩

def f20_l1_post (x10 : Int × Int × Int × Int × Int × Int × (List (Int × Int × Int × Int × Int)) × Int) : (Bool) → Ex → St → Prop
 | o, x, s => x = .out 0 ∧ s = ⟨[(3, .d t4 o)], []⟩

def f20_l1_b (x10 : Int × Int × Int × Int × Int × Int × (List (Int × Int × Int × Int × Int)) × Int) (again : Bool × Int → Option (Bool)) : Bool × Int → Option (Bool)
 | (x8, x9) =>
 (bif (decide (x9 < (ofN (List.length x10.2.2.2.2.2.2.1)))) then
 (bif x8 then
 gd (0 ≤ x9) <|
 gd (x9 < ((List.length x10.2.2.2.2.2.2.1 : Nat) : Int)) <|
 (F44 (List.getD x10.2.2.2.2.2.2.1 (toN x9) ((0 : Int), (0 : Int), (0 : Int), (0 : Int), (0 : Int))).1 (List.getD x10.2.2.2.2.2.2.1 (toN x9) ((0 : Int), (0 : Int), (0 : Int), (0 : Int), (0 : Int))).2.1 (List.getD x10.2.2.2.2.2.2.1 (toN x9) ((0 : Int), (0 : Int), (0 : Int), (0 : Int), (0 : Int))).2.2.1 (List.getD x10.2.2.2.2.2.2.1 (toN x9) ((0 : Int), (0 : Int), (0 : Int), (0 : Int), (0 : Int))).2.2.2.1).bind fun y12 =>
 (bif y12 then
 (F45 (List.getD x10.2.2.2.2.2.2.1 (toN x9) ((0 : Int), (0 : Int), (0 : Int), (0 : Int), (0 : Int))).2.2.2.2 (max2i (wrapI .i64 ((wrapI .i64 (0 - x10.2.2.2.2.1)) - x10.2.2.2.2.2.1)) (-10000000 : Int))).bind fun y13 =>
 (bif y13 then
 again ((decide ((List.getD x10.2.2.2.2.2.2.1 (toN x9) ((0 : Int), (0 : Int), (0 : Int), (0 : Int), (0 : Int))).2.2.2.2 < x10.2.2.2.2.2.2.2)), (wrapI .i64 (x9 + (1 : Int))))
 else
 again (false, (wrapI .i64 (x9 + (1 : Int)))))
 else
 again (false, (wrapI .i64 (x9 + (1 : Int)))))
 else
 some x8)
 else
 some x8)

def f20_l1 (x10 : Int × Int × Int × Int × Int × Int × (List (Int × Int × Int × Int × Int)) × Int) : Nat → Bool × Int → Option (Bool) := loopF (f20_l1_b x10)

theorem f20_l1_ok (x10 : Int × Int × Int × Int × Int × Int × (List (Int × Int × Int × Int × Int)) × Int) (k : Nat) (x8 : Bool) (x9 : Int) {out : (Bool)} (h : f20_l1 x10 k (x8, x9) = some out) : Run Pg 81 (bk1 (sq2 (sq1 (sq2 (sq2 c_20))))) ⟨[(1, .ptr 100 0), (3, .d t4 x8), (4, .d t2 x9)], [(100, bx t23 x10)]⟩ (f20_l1_post x10 out) := by
 refine Run.loopN (by kernel_rfl) (fun m s => ∃ x8 x9, s = ⟨[(1, .ptr 100 0), (3, .d t4 x8), (4, .d t2 x9)], [(100, bx t23 x10)]⟩ ∧ f20_l1 x10 m (x8, x9) = some out) ?_ k ⟨x8, x9,  rfl, h⟩
 rintro m s ⟨x8, x9,  rfl, h⟩
 cases m with
 | zero => cases h
 | succ m =>
 replace h : f20_l1_b x10 (f20_l1 x10 m) (x8, x9) = some out := h
 unfold f20_l1_b at h
 refine Run.sq ?_
 rcases bif_elim h with ⟨hb0, h⟩ | ⟨hb0, h⟩
 ·refine qN [(5, .b true)] 400 ⟨[(1, .ptr 100 0), (3, .d t4 x8), (4, .d t2 x9), (43, .d t4 x8)], [(100, bx t23 x10)]⟩ (aC hb0 aN) ?_
  refine Run.cd x8 (fun hb => ?_) (fun hb => ?_)
  ·replace h := bif_t h hb
   refine Run.sk ?_
   show Run Pg 81 _ _ _
   refine Run.sq ?_
   refine Run.bl 1 ?_
   obtain ⟨g_0, h⟩ := gd_elim h
   obtain ⟨g_1, h⟩ := gd_elim h
   refine qN [] 600 ⟨[(1, .ptr 100 0), (4, .d t2 x9), (5, .ptr 605 0)], [(100, bx t23 x10), (605, bx t33 (List.getD x10.2.2.2.2.2.2.1 (toN x9) ((0 : Int), (0 : Int), (0 : Int), (0 : Int), (0 : Int))))]⟩ (aC g_0 (aC g_1 aN)) ?_
   obtain ⟨y12, h_y12, h⟩ := bnd_elim h
   rcases bif_elim h with ⟨hb1, h⟩ | ⟨hb1, h⟩
   ·obtain ⟨y13, h_y13, h⟩ := bnd_elim h
    rcases bif_elim h with ⟨hb3, h⟩ | ⟨hb3, h⟩
    ·refine qE [(8, .call (.d t4 y12)), (9, .b true), (19, .call (.d t4 y13)), (21, .b true)] 700 ⟨[(1, .ptr 100 0), (3, .d t4 (decide ((List.getD x10.2.2.2.2.2.2.1 (toN x9) ((0 : Int), (0 : Int), (0 : Int), (0 : Int), (0 : Int))).2.2.2.2 < x10.2.2.2.2.2.2.2))), (4, .d t2 x9)], [(100, bx t23 x10)]⟩ (aC (c44 h_y12) (aC hb1 (aC (c45 h_y13) (aC hb3 aN)))) ?_
     show Run Pg 81 _ _ _
     refine qE [] 500 ⟨[(1, .ptr 100 0), (3, .d t4 (decide ((List.getD x10.2.2.2.2.2.2.1 (toN x9) ((0 : Int), (0 : Int), (0 : Int), (0 : Int), (0 : Int))).2.2.2.2 < x10.2.2.2.2.2.2.2))), (4, .d t2 (wrapI .i64 (x9 + (1 : Int))))], [(100, bx t23 x10)]⟩ aN ?_
     exact ⟨m, Nat.lt_succ_self m, _, _, rfl, h⟩
    ·refine qE [(8, .call (.d t4 y12)), (9, .b true), (19, .call (.d t4 y13)), (21, .b false)] 700 ⟨[(1, .ptr 100 0), (3, .d t4 false), (4, .d t2 x9)], [(100, bx t23 x10)]⟩ (aC (c44 h_y12) (aC hb1 (aC (c45 h_y13) (aC hb3 aN)))) ?_
     show Run Pg 81 _ _ _
     refine qE [] 500 ⟨[(1, .ptr 100 0), (3, .d t4 false), (4, .d t2 (wrapI .i64 (x9 + (1 : Int))))], [(100, bx t23 x10)]⟩ aN ?_
     exact ⟨m, Nat.lt_succ_self m, _, _, rfl, h⟩
   ·refine qE [(8, .call (.d t4 y12)), (9, .b false)] 700 ⟨[(1, .ptr 100 0), (3, .d t4 false), (4, .d t2 x9)], [(100, bx t23 x10)]⟩ (aC (c44 h_y12) (aC hb1 aN)) ?_
    show Run Pg 81 _ _ _
    refine qE [] 500 ⟨[(1, .ptr 100 0), (3, .d t4 false), (4, .d t2 (wrapI .i64 (x9 + (1 : Int))))], [(100, bx t23 x10)]⟩ aN ?_
    exact ⟨m, Nat.lt_succ_self m, _, _, rfl, h⟩
  ·replace h := bif_f h hb
   refine qK ⟨[(3, .d t4 x8)], []⟩ ?_
   refine Run.ex 0 ?_
   obtain rfl := sI h
   exact ⟨rfl, by kernel_rfl⟩
 ·refine qN [(5, .b false)] 400 ⟨[(1, .ptr 100 0), (3, .d t4 x8), (4, .d t2 x9), (43, .d t4 false)], [(100, bx t23 x10)]⟩ (aC hb0 aN) ?_
  refine Run.cd false (fun hb => (by cases hb)) (fun hb => ?_)
  refine qK ⟨[(3, .d t4 x8)], []⟩ ?_
  refine Run.ex 0 ?_
  obtain rfl := sI h
  exact ⟨rfl, by kernel_rfl⟩

def f20_l2_post (x16 : Int × Int × Int × Int × Int × Int × (List (Int × Int × Int × Int × Int)) × Int) : (Bool) → Ex → St → Prop
 | o, x, s => x = .out 0 ∧ s = ⟨[(3, .d t4 o)], []⟩

def f20_l2_b (x16 : Int × Int × Int × Int × Int × Int × (List (Int × Int × Int × Int × Int)) × Int) (again : Bool × Int → Option (Bool)) : Bool × Int → Option (Bool)
 | (x14, x15) =>
 (bif (decide (x15 < (ofN (List.length x16.2.2.2.2.2.2.1)))) then
 (bif x14 then
 gd (0 ≤ x15) <|
 gd (x15 < ((List.length x16.2.2.2.2.2.2.1 : Nat) : Int)) <|
 (F44 (List.getD x16.2.2.2.2.2.2.1 (toN x15) ((0 : Int), (0 : Int), (0 : Int), (0 : Int), (0 : Int))).1 (List.getD x16.2.2.2.2.2.2.1 (toN x15) ((0 : Int), (0 : Int), (0 : Int), (0 : Int), (0 : Int))).2.1 (List.getD x16.2.2.2.2.2.2.1 (toN x15) ((0 : Int), (0 : Int), (0 : Int), (0 : Int), (0 : Int))).2.2.1 (List.getD x16.2.2.2.2.2.2.1 (toN x15) ((0 : Int), (0 : Int), (0 : Int), (0 : Int), (0 : Int))).2.2.2.1).bind fun y18 =>
 (bif y18 then
 (F45 (List.getD x16.2.2.2.2.2.2.1 (toN x15) ((0 : Int), (0 : Int), (0 : Int), (0 : Int), (0 : Int))).2.2.2.2 (max2i (wrapI .i64 ((wrapI .i64 (0 - x16.2.2.2.2.1)) - x16.2.2.2.2.2.1)) (-10000000 : Int))).bind fun y19 =>
 (bif y19 then
 again ((decide ((List.getD x16.2.2.2.2.2.2.1 (toN x15) ((0 : Int), (0 : Int), (0 : Int), (0 : Int), (0 : Int))).2.2.2.2 < x16.2.2.2.2.2.2.2)), (wrapI .i64 (x15 + (1 : Int))))
 else
 again (false, (wrapI .i64 (x15 + (1 : Int)))))
 else
 again (false, (wrapI .i64 (x15 + (1 : Int)))))
 else
 some x14)
 else
 some x14)

def f20_l2 (x16 : Int × Int × Int × Int × Int × Int × (List (Int × Int × Int × Int × Int)) × Int) : Nat → Bool × Int → Option (Bool) := loopF (f20_l2_b x16)

theorem f20_l2_ok (x16 : Int × Int × Int × Int × Int × Int × (List (Int × Int × Int × Int × Int)) × Int) (k : Nat) (x14 : Bool) (x15 : Int) {out : (Bool)} (h : f20_l2 x16 k (x14, x15) = some out) : Run Pg 81 (bk1 (sq2 (sq1 (sq2 (sq2 c_20))))) ⟨[(1, .ptr 100 0), (3, .d t4 x14), (4, .d t2 x15)], [(100, bx t23 x16)]⟩ (f20_l2_post x16 out) := by
 refine Run.loopN (by kernel_rfl) (fun m s => ∃ x14 x15, s = ⟨[(1, .ptr 100 0), (3, .d t4 x14), (4, .d t2 x15)], [(100, bx t23 x16)]⟩ ∧ f20_l2 x16 m (x14, x15) = some out) ?_ k ⟨x14, x15,  rfl, h⟩
 rintro m s ⟨x14, x15,  rfl, h⟩
 cases m with
 | zero => cases h
 | succ m =>
 replace h : f20_l2_b x16 (f20_l2 x16 m) (x14, x15) = some out := h
 unfold f20_l2_b at h
 refine Run.sq ?_
 rcases bif_elim h with ⟨hb0, h⟩ | ⟨hb0, h⟩
 ·refine qN [(5, .b true)] 400 ⟨[(1, .ptr 100 0), (3, .d t4 x14), (4, .d t2 x15), (43, .d t4 x14)], [(100, bx t23 x16)]⟩ (aC hb0 aN) ?_
  refine Run.cd x14 (fun hb => ?_) (fun hb => ?_)
  ·replace h := bif_t h hb
   refine Run.sk ?_
   show Run Pg 81 _ _ _
   refine Run.sq ?_
   refine Run.bl 1 ?_
   obtain ⟨g_0, h⟩ := gd_elim h
   obtain ⟨g_1, h⟩ := gd_elim h
   refine qN [] 600 ⟨[(1, .ptr 100 0), (4, .d t2 x15), (5, .ptr 605 0)], [(100, bx t23 x16), (605, bx t33 (List.getD x16.2.2.2.2.2.2.1 (toN x15) ((0 : Int), (0 : Int), (0 : Int), (0 : Int), (0 : Int))))]⟩ (aC g_0 (aC g_1 aN)) ?_
   obtain ⟨y18, h_y18, h⟩ := bnd_elim h
   rcases bif_elim h with ⟨hb1, h⟩ | ⟨hb1, h⟩
   ·obtain ⟨y19, h_y19, h⟩ := bnd_elim h
    rcases bif_elim h with ⟨hb3, h⟩ | ⟨hb3, h⟩
    ·refine qE [(8, .call (.d t4 y18)), (9, .b true), (19, .call (.d t4 y19)), (21, .b true)] 700 ⟨[(1, .ptr 100 0), (3, .d t4 (decide ((List.getD x16.2.2.2.2.2.2.1 (toN x15) ((0 : Int), (0 : Int), (0 : Int), (0 : Int), (0 : Int))).2.2.2.2 < x16.2.2.2.2.2.2.2))), (4, .d t2 x15)], [(100, bx t23 x16)]⟩ (aC (c44 h_y18) (aC hb1 (aC (c45 h_y19) (aC hb3 aN)))) ?_
     show Run Pg 81 _ _ _
     refine qE [] 500 ⟨[(1, .ptr 100 0), (3, .d t4 (decide ((List.getD x16.2.2.2.2.2.2.1 (toN x15) ((0 : Int), (0 : Int), (0 : Int), (0 : Int), (0 : Int))).2.2.2.2 < x16.2.2.2.2.2.2.2))), (4, .d t2 (wrapI .i64 (x15 + (1 : Int))))], [(100, bx t23 x16)]⟩ aN ?_
     exact ⟨m, Nat.lt_succ_self m, _, _, rfl, h⟩
    ·refine qE [(8, .call (.d t4 y18)), (9, .b true), (19, .call (.d t4 y19)), (21, .b false)] 700 ⟨[(1, .ptr 100 0), (3, .d t4 false), (4, .d t2 x15)], [(100, bx t23 x16)]⟩ (aC (c44 h_y18) (aC hb1 (aC (c45 h_y19) (aC hb3 aN)))) ?_
     show Run Pg 81 _ _ _
     refine qE [] 500 ⟨[(1, .ptr 100 0), (3, .d t4 false), (4, .d t2 (wrapI .i64 (x15 + (1 : Int))))], [(100, bx t23 x16)]⟩ aN ?_
     exact ⟨m, Nat.lt_succ_self m, _, _, rfl, h⟩
   ·refine qE [(8, .call (.d t4 y18)), (9, .b false)] 700 ⟨[(1, .ptr 100 0), (3, .d t4 false), (4, .d t2 x15)], [(100, bx t23 x16)]⟩ (aC (c44 h_y18) (aC hb1 aN)) ?_
    show Run Pg 81 _ _ _
    refine qE [] 500 ⟨[(1, .ptr 100 0), (3, .d t4 false), (4, .d t2 (wrapI .i64 (x15 + (1 : Int))))], [(100, bx t23 x16)]⟩ aN ?_
    exact ⟨m, Nat.lt_succ_self m, _, _, rfl, h⟩
  ·replace h := bif_f h hb
   refine qK ⟨[(3, .d t4 x14)], []⟩ ?_
   refine Run.ex 0 ?_
   obtain rfl := sI h
   exact ⟨rfl, by kernel_rfl⟩
 ·refine qN [(5, .b false)] 400 ⟨[(1, .ptr 100 0), (3, .d t4 x14), (4, .d t2 x15), (43, .d t4 false)], [(100, bx t23 x16)]⟩ (aC hb0 aN) ?_
  refine Run.cd false (fun hb => (by cases hb)) (fun hb => ?_)
  refine qK ⟨[(3, .d t4 x14)], []⟩ ?_
  refine Run.ex 0 ?_
  obtain rfl := sI h
  exact ⟨rfl, by kernel_rfl⟩

def f20_l3_post (x22 : Int × Int × Int × Int × Int × Int × (List (Int × Int × Int × Int × Int)) × Int) : (Bool) → Ex → St → Prop
 | o, x, s => x = .out 0 ∧ s = ⟨[(3, .d t4 o)], []⟩

def f20_l3_b (x22 : Int × Int × Int × Int × Int × Int × (List (Int × Int × Int × Int × Int)) × Int) (again : Bool × Int → Option (Bool)) : Bool × Int → Option (Bool)
 | (x20, x21) =>
 (bif (decide (x21 < (ofN (List.length x22.2.2.2.2.2.2.1)))) then
 (bif x20 then
 gd (0 ≤ x21) <|
 gd (x21 < ((List.length x22.2.2.2.2.2.2.1 : Nat) : Int)) <|
 (F44 (List.getD x22.2.2.2.2.2.2.1 (toN x21) ((0 : Int), (0 : Int), (0 : Int), (0 : Int), (0 : Int))).1 (List.getD x22.2.2.2.2.2.2.1 (toN x21) ((0 : Int), (0 : Int), (0 : Int), (0 : Int), (0 : Int))).2.1 (List.getD x22.2.2.2.2.2.2.1 (toN x21) ((0 : Int), (0 : Int), (0 : Int), (0 : Int), (0 : Int))).2.2.1 (List.getD x22.2.2.2.2.2.2.1 (toN x21) ((0 : Int), (0 : Int), (0 : Int), (0 : Int), (0 : Int))).2.2.2.1).bind fun y24 =>
 (bif y24 then
 (F45 (List.getD x22.2.2.2.2.2.2.1 (toN x21) ((0 : Int), (0 : Int), (0 : Int), (0 : Int), (0 : Int))).2.2.2.2 (max2i (wrapI .i64 ((wrapI .i64 (0 - x22.2.2.2.2.1)) - x22.2.2.2.2.2.1)) (-10000000 : Int))).bind fun y25 =>
 (bif y25 then
 again ((decide ((List.getD x22.2.2.2.2.2.2.1 (toN x21) ((0 : Int), (0 : Int), (0 : Int), (0 : Int), (0 : Int))).2.2.2.2 < x22.2.2.2.2.2.2.2)), (wrapI .i64 (x21 + (1 : Int))))
 else
 again (false, (wrapI .i64 (x21 + (1 : Int)))))
 else
 again (false, (wrapI .i64 (x21 + (1 : Int)))))
 else
 some x20)
 else
 some x20)

def f20_l3 (x22 : Int × Int × Int × Int × Int × Int × (List (Int × Int × Int × Int × Int)) × Int) : Nat → Bool × Int → Option (Bool) := loopF (f20_l3_b x22)

theorem f20_l3_ok (x22 : Int × Int × Int × Int × Int × Int × (List (Int × Int × Int × Int × Int)) × Int) (k : Nat) (x20 : Bool) (x21 : Int) {out : (Bool)} (h : f20_l3 x22 k (x20, x21) = some out) : Run Pg 81 (bk1 (sq2 (sq1 (sq2 (sq2 c_20))))) ⟨[(1, .ptr 100 0), (3, .d t4 x20), (4, .d t2 x21)], [(100, bx t23 x22)]⟩ (f20_l3_post x22 out) := by
 refine Run.loopN (by kernel_rfl) (fun m s => ∃ x20 x21, s = ⟨[(1, .ptr 100 0), (3, .d t4 x20), (4, .d t2 x21)], [(100, bx t23 x22)]⟩ ∧ f20_l3 x22 m (x20, x21) = some out) ?_ k ⟨x20, x21,  rfl, h⟩
 rintro m s ⟨x20, x21,  rfl, h⟩
 cases m with
 | zero => cases h
 | succ m =>
 replace h : f20_l3_b x22 (f20_l3 x22 m) (x20, x21) = some out := h
 unfold f20_l3_b at h
 refine Run.sq ?_
 rcases bif_elim h with ⟨hb0, h⟩ | ⟨hb0, h⟩
 ·refine qN [(5, .b true)] 400 ⟨[(1, .ptr 100 0), (3, .d t4 x20), (4, .d t2 x21), (43, .d t4 x20)], [(100, bx t23 x22)]⟩ (aC hb0 aN) ?_
  refine Run.cd x20 (fun hb => ?_) (fun hb => ?_)
  ·replace h := bif_t h hb
   refine Run.sk ?_
   show Run Pg 81 _ _ _
   refine Run.sq ?_
   refine Run.bl 1 ?_
   obtain ⟨g_0, h⟩ := gd_elim h
   obtain ⟨g_1, h⟩ := gd_elim h
   refine qN [] 600 ⟨[(1, .ptr 100 0), (4, .d t2 x21), (5, .ptr 605 0)], [(100, bx t23 x22), (605, bx t33 (List.getD x22.2.2.2.2.2.2.1 (toN x21) ((0 : Int), (0 : Int), (0 : Int), (0 : Int), (0 : Int))))]⟩ (aC g_0 (aC g_1 aN)) ?_
   obtain ⟨y24, h_y24, h⟩ := bnd_elim h
   rcases bif_elim h with ⟨hb1, h⟩ | ⟨hb1, h⟩
   ·obtain ⟨y25, h_y25, h⟩ := bnd_elim h
    rcases bif_elim h with ⟨hb3, h⟩ | ⟨hb3, h⟩
    ·refine qE [(8, .call (.d t4 y24)), (9, .b true), (19, .call (.d t4 y25)), (21, .b true)] 700 ⟨[(1, .ptr 100 0), (3, .d t4 (decide ((List.getD x22.2.2.2.2.2.2.1 (toN x21) ((0 : Int), (0 : Int), (0 : Int), (0 : Int), (0 : Int))).2.2.2.2 < x22.2.2.2.2.2.2.2))), (4, .d t2 x21)], [(100, bx t23 x22)]⟩ (aC (c44 h_y24) (aC hb1 (aC (c45 h_y25) (aC hb3 aN)))) ?_
     show Run Pg 81 _ _ _
     refine qE [] 500 ⟨[(1, .ptr 100 0), (3, .d t4 (decide ((List.getD x22.2.2.2.2.2.2.1 (toN x21) ((0 : Int), (0 : Int), (0 : Int), (0 : Int), (0 : Int))).2.2.2.2 < x22.2.2.2.2.2.2.2))), (4, .d t2 (wrapI .i64 (x21 + (1 : Int))))], [(100, bx t23 x22)]⟩ aN ?_
     exact ⟨m, Nat.lt_succ_self m, _, _, rfl, h⟩
    ·refine qE [(8, .call (.d t4 y24)), (9, .b true), (19, .call (.d t4 y25)), (21, .b false)] 700 ⟨[(1, .ptr 100 0), (3, .d t4 false), (4, .d t2 x21)], [(100, bx t23 x22)]⟩ (aC (c44 h_y24) (aC hb1 (aC (c45 h_y25) (aC hb3 aN)))) ?_
     show Run Pg 81 _ _ _
     refine qE [] 500 ⟨[(1, .ptr 100 0), (3, .d t4 false), (4, .d t2 (wrapI .i64 (x21 + (1 : Int))))], [(100, bx t23 x22)]⟩ aN ?_
     exact ⟨m, Nat.lt_succ_self m, _, _, rfl, h⟩
   ·refine qE [(8, .call (.d t4 y24)), (9, .b false)] 700 ⟨[(1, .ptr 100 0), (3, .d t4 false), (4, .d t2 x21)], [(100, bx t23 x22)]⟩ (aC (c44 h_y24) (aC hb1 aN)) ?_
    show Run Pg 81 _ _ _
    refine qE [] 500 ⟨[(1, .ptr 100 0), (3, .d t4 false), (4, .d t2 (wrapI .i64 (x21 + (1 : Int))))], [(100, bx t23 x22)]⟩ aN ?_
    exact ⟨m, Nat.lt_succ_self m, _, _, rfl, h⟩
  ·replace h := bif_f h hb
   refine qK ⟨[(3, .d t4 x20)], []⟩ ?_
   refine Run.ex 0 ?_
   obtain rfl := sI h
   exact ⟨rfl, by kernel_rfl⟩
 ·refine qN [(5, .b false)] 400 ⟨[(1, .ptr 100 0), (3, .d t4 x20), (4, .d t2 x21), (43, .d t4 false)], [(100, bx t23 x22)]⟩ (aC hb0 aN) ?_
  refine Run.cd false (fun hb => (by cases hb)) (fun hb => ?_)
  refine qK ⟨[(3, .d t4 x20)], []⟩ ?_
  refine Run.ex 0 ?_
  obtain rfl := sI h
  exact ⟨rfl, by kernel_rfl⟩

def f20_l4_post (x28 : Int × Int × Int × Int × Int × Int × (List (Int × Int × Int × Int × Int)) × Int) : (Bool) → Ex → St → Prop
 | o, x, s => x = .out 0 ∧ s = ⟨[(3, .d t4 o)], []⟩

def f20_l4_b (x28 : Int × Int × Int × Int × Int × Int × (List (Int × Int × Int × Int × Int)) × Int) (again : Bool × Int → Option (Bool)) : Bool × Int → Option (Bool)
 | (x26, x27) =>
 (bif (decide (x27 < (ofN (List.length x28.2.2.2.2.2.2.1)))) then
 (bif x26 then
 gd (0 ≤ x27) <|
 gd (x27 < ((List.length x28.2.2.2.2.2.2.1 : Nat) : Int)) <|
 (F44 (List.getD x28.2.2.2.2.2.2.1 (toN x27) ((0 : Int), (0 : Int), (0 : Int), (0 : Int), (0 : Int))).1 (List.getD x28.2.2.2.2.2.2.1 (toN x27) ((0 : Int), (0 : Int), (0 : Int), (0 : Int), (0 : Int))).2.1 (List.getD x28.2.2.2.2.2.2.1 (toN x27) ((0 : Int), (0 : Int), (0 : Int), (0 : Int), (0 : Int))).2.2.1 (List.getD x28.2.2.2.2.2.2.1 (toN x27) ((0 : Int), (0 : Int), (0 : Int), (0 : Int), (0 : Int))).2.2.2.1).bind fun y30 =>
 (bif y30 then
 (F45 (List.getD x28.2.2.2.2.2.2.1 (toN x27) ((0 : Int), (0 : Int), (0 : Int), (0 : Int), (0 : Int))).2.2.2.2 (max2i (wrapI .i64 ((wrapI .i64 (0 - x28.2.2.2.2.1)) - x28.2.2.2.2.2.1)) (-10000000 : Int))).bind fun y31 =>
 (bif y31 then
 again ((decide ((List.getD x28.2.2.2.2.2.2.1 (toN x27) ((0 : Int), (0 : Int), (0 : Int), (0 : Int), (0 : Int))).2.2.2.2 < x28.2.2.2.2.2.2.2)), (wrapI .i64 (x27 + (1 : Int))))
 else
 again (false, (wrapI .i64 (x27 + (1 : Int)))))
 else
 again (false, (wrapI .i64 (x27 + (1 : Int)))))
 else
 some x26)
 else
 some x26)

def f20_l4 (x28 : Int × Int × Int × Int × Int × Int × (List (Int × Int × Int × Int × Int)) × Int) : Nat → Bool × Int → Option (Bool) := loopF (f20_l4_b x28)

theorem f20_l4_ok (x28 : Int × Int × Int × Int × Int × Int × (List (Int × Int × Int × Int × Int)) × Int) (k : Nat) (x26 : Bool) (x27 : Int) {out : (Bool)} (h : f20_l4 x28 k (x26, x27) = some out) : Run Pg 81 (bk1 (sq2 (sq1 (sq2 (sq2 c_20))))) ⟨[(1, .ptr 100 0), (3, .d t4 x26), (4, .d t2 x27)], [(100, bx t23 x28)]⟩ (f20_l4_post x28 out) := by
 refine Run.loopN (by kernel_rfl) (fun m s => ∃ x26 x27, s = ⟨[(1, .ptr 100 0), (3, .d t4 x26), (4, .d t2 x27)], [(100, bx t23 x28)]⟩ ∧ f20_l4 x28 m (x26, x27) = some out) ?_ k ⟨x26, x27,  rfl, h⟩
 rintro m s ⟨x26, x27,  rfl, h⟩
 cases m with
 | zero => cases h
 | succ m =>
 replace h : f20_l4_b x28 (f20_l4 x28 m) (x26, x27) = some out := h
 unfold f20_l4_b at h
 refine Run.sq ?_
 rcases bif_elim h with ⟨hb0, h⟩ | ⟨hb0, h⟩
 ·refine qN [(5, .b true)] 400 ⟨[(1, .ptr 100 0), (3, .d t4 x26), (4, .d t2 x27), (43, .d t4 x26)], [(100, bx t23 x28)]⟩ (aC hb0 aN) ?_
  refine Run.cd x26 (fun hb => ?_) (fun hb => ?_)
  ·replace h := bif_t h hb
   refine Run.sk ?_
   show Run Pg 81 _ _ _
   refine Run.sq ?_
   refine Run.bl 1 ?_
   obtain ⟨g_0, h⟩ := gd_elim h
   obtain ⟨g_1, h⟩ := gd_elim h
   refine qN [] 600 ⟨[(1, .ptr 100 0), (4, .d t2 x27), (5, .ptr 605 0)], [(100, bx t23 x28), (605, bx t33 (List.getD x28.2.2.2.2.2.2.1 (toN x27) ((0 : Int), (0 : Int), (0 : Int), (0 : Int), (0 : Int))))]⟩ (aC g_0 (aC g_1 aN)) ?_
   obtain ⟨y30, h_y30, h⟩ := bnd_elim h
   rcases bif_elim h with ⟨hb1, h⟩ | ⟨hb1, h⟩
   ·obtain ⟨y31, h_y31, h⟩ := bnd_elim h
    rcases bif_elim h with ⟨hb3, h⟩ | ⟨hb3, h⟩
    ·refine qE [(8, .call (.d t4 y30)), (9, .b true), (19, .call (.d t4 y31)), (21, .b true)] 700 ⟨[(1, .ptr 100 0), (3, .d t4 (decide ((List.getD x28.2.2.2.2.2.2.1 (toN x27) ((0 : Int), (0 : Int), (0 : Int), (0 : Int), (0 : Int))).2.2.2.2 < x28.2.2.2.2.2.2.2))), (4, .d t2 x27)], [(100, bx t23 x28)]⟩ (aC (c44 h_y30) (aC hb1 (aC (c45 h_y31) (aC hb3 aN)))) ?_
     show Run Pg 81 _ _ _
     refine qE [] 500 ⟨[(1, .ptr 100 0), (3, .d t4 (decide ((List.getD x28.2.2.2.2.2.2.1 (toN x27) ((0 : Int), (0 : Int), (0 : Int), (0 : Int), (0 : Int))).2.2.2.2 < x28.2.2.2.2.2.2.2))), (4, .d t2 (wrapI .i64 (x27 + (1 : Int))))], [(100, bx t23 x28)]⟩ aN ?_
     exact ⟨m, Nat.lt_succ_self m, _, _, rfl, h⟩
    ·refine qE [(8, .call (.d t4 y30)), (9, .b true), (19, .call (.d t4 y31)), (21, .b false)] 700 ⟨[(1, .ptr 100 0), (3, .d t4 false), (4, .d t2 x27)], [(100, bx t23 x28)]⟩ (aC (c44 h_y30) (aC hb1 (aC (c45 h_y31) (aC hb3 aN)))) ?_
     show Run Pg 81 _ _ _
     refine qE [] 500 ⟨[(1, .ptr 100 0), (3, .d t4 false), (4, .d t2 (wrapI .i64 (x27 + (1 : Int))))], [(100, bx t23 x28)]⟩ aN ?_
     exact ⟨m, Nat.lt_succ_self m, _, _, rfl, h⟩
   ·refine qE [(8, .call (.d t4 y30)), (9, .b false)] 700 ⟨[(1, .ptr 100 0), (3, .d t4 false), (4, .d t2 x27)], [(100, bx t23 x28)]⟩ (aC (c44 h_y30) (aC hb1 aN)) ?_
    show Run Pg 81 _ _ _
    refine qE [] 500 ⟨[(1, .ptr 100 0), (3, .d t4 false), (4, .d t2 (wrapI .i64 (x27 + (1 : Int))))], [(100, bx t23 x28)]⟩ aN ?_
    exact ⟨m, Nat.lt_succ_self m, _, _, rfl, h⟩
  ·replace h := bif_f h hb
   refine qK ⟨[(3, .d t4 x26)], []⟩ ?_
   refine Run.ex 0 ?_
   obtain rfl := sI h
   exact ⟨rfl, by kernel_rfl⟩
 ·refine qN [(5, .b false)] 400 ⟨[(1, .ptr 100 0), (3, .d t4 x26), (4, .d t2 x27), (43, .d t4 false)], [(100, bx t23 x28)]⟩ (aC hb0 aN) ?_
  refine Run.cd false (fun hb => (by cases hb)) (fun hb => ?_)
  refine qK ⟨[(3, .d t4 x26)], []⟩ ?_
  refine Run.ex 0 ?_
  obtain rfl := sI h
  exact ⟨rfl, by kernel_rfl⟩

def F20 (a0 : Int × Int × Int × Int × Int × Int × (List (Int × Int × Int × Int × Int)) × Int) : Option (Int) :=
 (F44 a0.1 a0.2.1 a0.2.2.1 a0.2.2.2.1).bind fun y1 =>
 (bif y1 then
 (F45 a0.2.2.2.2.1 (1 : Int)).bind fun y2 =>
 (bif y2 then
 (F45 a0.2.2.2.2.2.1 (0 : Int)).bind fun y3 =>
 (bif y3 then
 (bif (decide ((ofN (List.length a0.2.2.2.2.2.2.1)) ≤ (50 : Int))) then
 (F45 a0.2.2.2.2.2.2.2 (1 : Int)).bind fun y4 =>
 ((f20_l0 a0 (2 + List.length a0.2.2.2.2.2.2.1) (y4, (0 : Int))).bind fun o7 =>
 (bif (!o7) then
 some (1 : Int)
 else
 some (0 : Int)))
 else
 ((f20_l1 a0 (2 + List.length a0.2.2.2.2.2.2.1) (false, (0 : Int))).bind fun o13 =>
 (bif (!o13) then
 some (1 : Int)
 else
 some (0 : Int))))
 else
 ((f20_l2 a0 (2 + List.length a0.2.2.2.2.2.2.1) (false, (0 : Int))).bind fun o19 =>
 (bif (!o19) then
 some (1 : Int)
 else
 some (0 : Int))))
 else
 ((f20_l3 a0 (2 + List.length a0.2.2.2.2.2.2.1) (false, (0 : Int))).bind fun o25 =>
 (bif (!o25) then
 some (1 : Int)
 else
 some (0 : Int))))
 else
 ((f20_l4 a0 (2 + List.length a0.2.2.2.2.2.2.1) (false, (0 : Int))).bind fun o31 =>
 (bif (!o31) then
 some (1 : Int)
 else
 some (0 : Int))))

theorem c20 {a0 : Int × Int × Int × Int × Int × Int × (List (Int × Int × Int × Int × Int)) × Int} {r : Int} (h : F20 a0 = some r) : CallPure Pg 20 [(.d t23 a0)] (.d t2 r) := by
 refine qC c_20 81 [.tmp 2] [41] Go.Proofs.Tryz.func20 ?_
 show Run Pg 81 c_20 ⟨[(0, .d t23 a0)], []⟩ (fin20 r)
 unfold F20 at h
 refine qN [] 100 ⟨[(1, .ptr 100 0)], [(100, bx t23 a0)]⟩ aN ?_
 obtain ⟨y1, h_y1, h⟩ := bnd_elim h
 rcases bif_elim h with ⟨hb1, h⟩ | ⟨hb1, h⟩
 ·obtain ⟨y2, h_y2, h⟩ := bnd_elim h
  rcases bif_elim h with ⟨hb3, h⟩ | ⟨hb3, h⟩
  ·obtain ⟨y3, h_y3, h⟩ := bnd_elim h
   rcases bif_elim h with ⟨hb5, h⟩ | ⟨hb5, h⟩
   ·rcases bif_elim h with ⟨hb6, h⟩ | ⟨hb6, h⟩
    ·obtain ⟨y4, h_y4, h⟩ := bnd_elim h
     refine qN [(8, .call (.d t4 y1)), (9, .b true), (12, .call (.d t4 y2)), (14, .b true), (17, .call (.d t4 y3)), (19, .b true), (25, .b true), (28, .call (.d t4 y4))] 200 ⟨[(1, .ptr 100 0), (3, .d t4 y4)], [(100, bx t23 a0)]⟩ (aC (c44 h_y1) (aC hb1 (aC (c45 h_y2) (aC hb3 (aC (c45 h_y3) (aC hb5 (aC hb6 (aC (c45 h_y4) aN)))))))) ?_
     refine Run.sq ?_
     refine qN [] 300 ⟨[(1, .ptr 100 0), (3, .d t4 y4), (4, .d t2 (0 : Int))], [(100, bx t23 a0)]⟩ aN ?_
     refine Run.bl 0 ?_
     obtain ⟨o7, h_o7, h⟩ := bnd_elim h
     refine Run.mono (f20_l0_ok a0 _ y4 (0 : Int) h_o7) ?_
     rintro _ _ ⟨rfl, rfl⟩
     show Run Pg 81 _ _ _
     refine Run.sq ?_
     refine qN [] 800 ⟨[(80, .d t4 (!o7))], []⟩ aN ?_
     refine Run.cd (!o7) (fun hb => ?_) (fun hb => ?_)
     ·replace h := bif_t h hb
      refine qN [] 900 ⟨[(2, .d t2 (1 : Int))], []⟩ aN ?_
      refine Run.rt ?_
      obtain rfl := sI h
      exact qR [(.d t2 (1 : Int))]
     ·replace h := bif_f h hb
      refine Run.sk ?_
      show Run Pg 81 _ _ _
      refine qN [] 1000 ⟨[(2, .d t2 (0 : Int))], []⟩ aN ?_
      refine Run.rt ?_
      obtain rfl := sI h
      exact qR [(.d t2 (0 : Int))]
    ·refine qN [(8, .call (.d t4 y1)), (9, .b true), (12, .call (.d t4 y2)), (14, .b true), (17, .call (.d t4 y3)), (19, .b true), (25, .b false)] 200 ⟨[(1, .ptr 100 0), (3, .d t4 false)], [(100, bx t23 a0)]⟩ (aC (c44 h_y1) (aC hb1 (aC (c45 h_y2) (aC hb3 (aC (c45 h_y3) (aC hb5 (aC hb6 aN))))))) ?_
     refine Run.sq ?_
     refine qN [] 300 ⟨[(1, .ptr 100 0), (3, .d t4 false), (4, .d t2 (0 : Int))], [(100, bx t23 a0)]⟩ aN ?_
     refine Run.bl 0 ?_
     obtain ⟨o13, h_o13, h⟩ := bnd_elim h
     refine Run.mono (f20_l1_ok a0 _ false (0 : Int) h_o13) ?_
     rintro _ _ ⟨rfl, rfl⟩
     show Run Pg 81 _ _ _
     refine Run.sq ?_
     refine qN [] 800 ⟨[(80, .d t4 (!o13))], []⟩ aN ?_
     refine Run.cd (!o13) (fun hb => ?_) (fun hb => ?_)
     ·replace h := bif_t h hb
      refine qN [] 900 ⟨[(2, .d t2 (1 : Int))], []⟩ aN ?_
      refine Run.rt ?_
      obtain rfl := sI h
      exact qR [(.d t2 (1 : Int))]
     ·replace h := bif_f h hb
      refine Run.sk ?_
      show Run Pg 81 _ _ _
      refine qN [] 1000 ⟨[(2, .d t2 (0 : Int))], []⟩ aN ?_
      refine Run.rt ?_
      obtain rfl := sI h
      exact qR [(.d t2 (0 : Int))]
   ·refine qN [(8, .call (.d t4 y1)), (9, .b true), (12, .call (.d t4 y2)), (14, .b true), (17, .call (.d t4 y3)), (19, .b false)] 200 ⟨[(1, .ptr 100 0), (3, .d t4 false)], [(100, bx t23 a0)]⟩ (aC (c44 h_y1) (aC hb1 (aC (c45 h_y2) (aC hb3 (aC (c45 h_y3) (aC hb5 aN)))))) ?_
    refine Run.sq ?_
    refine qN [] 300 ⟨[(1, .ptr 100 0), (3, .d t4 false), (4, .d t2 (0 : Int))], [(100, bx t23 a0)]⟩ aN ?_
    refine Run.bl 0 ?_
    obtain ⟨o19, h_o19, h⟩ := bnd_elim h
    refine Run.mono (f20_l2_ok a0 _ false (0 : Int) h_o19) ?_
    rintro _ _ ⟨rfl, rfl⟩
    show Run Pg 81 _ _ _
    refine Run.sq ?_
    refine qN [] 800 ⟨[(80, .d t4 (!o19))], []⟩ aN ?_
    refine Run.cd (!o19) (fun hb => ?_) (fun hb => ?_)
    ·replace h := bif_t h hb
     refine qN [] 900 ⟨[(2, .d t2 (1 : Int))], []⟩ aN ?_
     refine Run.rt ?_
     obtain rfl := sI h
     exact qR [(.d t2 (1 : Int))]
    ·replace h := bif_f h hb
     refine Run.sk ?_
     show Run Pg 81 _ _ _
     refine qN [] 1000 ⟨[(2, .d t2 (0 : Int))], []⟩ aN ?_
     refine Run.rt ?_
     obtain rfl := sI h
     exact qR [(.d t2 (0 : Int))]
  ·refine qN [(8, .call (.d t4 y1)), (9, .b true), (12, .call (.d t4 y2)), (14, .b false)] 200 ⟨[(1, .ptr 100 0), (3, .d t4 false)], [(100, bx t23 a0)]⟩ (aC (c44 h_y1) (aC hb1 (aC (c45 h_y2) (aC hb3 aN)))) ?_
   refine Run.sq ?_
   refine qN [] 300 ⟨[(1, .ptr 100 0), (3, .d t4 false), (4, .d t2 (0 : Int))], [(100, bx t23 a0)]⟩ aN ?_
   refine Run.bl 0 ?_
   obtain ⟨o25, h_o25, h⟩ := bnd_elim h
   refine Run.mono (f20_l3_ok a0 _ false (0 : Int) h_o25) ?_
   rintro _ _ ⟨rfl, rfl⟩
   show Run Pg 81 _ _ _
   refine Run.sq ?_
   refine qN [] 800 ⟨[(80, .d t4 (!o25))], []⟩ aN ?_
   refine Run.cd (!o25) (fun hb => ?_) (fun hb => ?_)
   ·replace h := bif_t h hb
    refine qN [] 900 ⟨[(2, .d t2 (1 : Int))], []⟩ aN ?_
    refine Run.rt ?_
    obtain rfl := sI h
    exact qR [(.d t2 (1 : Int))]
   ·replace h := bif_f h hb
    refine Run.sk ?_
    show Run Pg 81 _ _ _
    refine qN [] 1000 ⟨[(2, .d t2 (0 : Int))], []⟩ aN ?_
    refine Run.rt ?_
    obtain rfl := sI h
    exact qR [(.d t2 (0 : Int))]
 ·refine qN [(8, .call (.d t4 y1)), (9, .b false)] 200 ⟨[(1, .ptr 100 0), (3, .d t4 false)], [(100, bx t23 a0)]⟩ (aC (c44 h_y1) (aC hb1 aN)) ?_
  refine Run.sq ?_
  refine qN [] 300 ⟨[(1, .ptr 100 0), (3, .d t4 false), (4, .d t2 (0 : Int))], [(100, bx t23 a0)]⟩ aN ?_
  refine Run.bl 0 ?_
  obtain ⟨o31, h_o31, h⟩ := bnd_elim h
  refine Run.mono (f20_l4_ok a0 _ false (0 : Int) h_o31) ?_
  rintro _ _ ⟨rfl, rfl⟩
  show Run Pg 81 _ _ _
  refine Run.sq ?_
  refine qN [] 800 ⟨[(80, .d t4 (!o31))], []⟩ aN ?_
  refine Run.cd (!o31) (fun hb => ?_) (fun hb => ?_)
  ·replace h := bif_t h hb
   refine qN [] 900 ⟨[(2, .d t2 (1 : Int))], []⟩ aN ?_
   refine Run.rt ?_
   obtain rfl := sI h
   exact qR [(.d t2 (1 : Int))]
  ·replace h := bif_f h hb
   refine Run.sk ?_
   show Run Pg 81 _ _ _
   refine qN [] 1000 ⟨[(2, .d t2 (0 : Int))], []⟩ aN ?_
   refine Run.rt ?_
   obtain rfl := sI h
   exact qR [(.d t2 (0 : Int))]

/-! ## f55 -/

noncomputable def c_55 : Code := body0 Go.Proofs.Tryz.f55

def fin55 (r : Bool) : Ex → St → Prop := endK X0 [.tmp 2] [4] (.d t4 r)

def F55 (a0 : Int) : Option (Bool) :=
 (bif (decide ((10000000 : Int) < a0)) then
 some true
 else
 some (decide (a0 < (-10000000 : Int))))

theorem c55 {a0 : Int} {r : Bool} (h : F55 a0 = some r) : CallPure Pg 55 [(.d t2 a0)] (.d t4 r) := by
 refine qC c_55 9 [.tmp 2] [4] Go.Proofs.Tryz.func55 ?_
 show Run Pg 9 c_55 ⟨[(0, .d t2 a0)], []⟩ (fin55 r)
 unfold F55 at h
 refine qN [] 100 ⟨[(0, .d t2 a0)], []⟩ aN ?_
 rcases bif_elim h with ⟨hb0, h⟩ | ⟨hb0, h⟩
 ·refine qN [(2, .b true)] 200 ⟨[(2, .d t4 true)], []⟩ (aC hb0 aN) ?_
  refine Run.rt ?_
  obtain rfl := sI h
  exact qR [(.d t4 true)]
 ·refine qN [(2, .b false)] 200 ⟨[(2, .d t4 (decide (a0 < (-10000000 : Int))))], []⟩ (aC hb0 aN) ?_
  refine Run.rt ?_
  obtain rfl := sI h
  exact qR [(.d t4 (decide (a0 < (-10000000 : Int))))]

/-! ## f29 -/

noncomputable def c_29 : Code := body0 Go.Proofs.Tryz.f29

def fin29 (r : Bool) : Ex → St → Prop := endK X0 [.tmp 2] [4] (.d t4 r)

def F29 (a0 : Int × Int × Int) : Option (Bool) :=
 (F55 a0.1).bind fun y1 =>
 (bif y1 then
 some true
 else
 (F55 a0.2.1).bind fun y2 =>
 (bif y2 then
 some true
 else
 (F55 a0.2.2).bind fun y3 =>
 some y3))

theorem c29 {a0 : Int × Int × Int} {r : Bool} (h : F29 a0 = some r) : CallPure Pg 29 [(.d t36 a0)] (.d t4 r) := by
 refine qC c_29 16 [.tmp 2] [4] Go.Proofs.Tryz.func29 ?_
 show Run Pg 16 c_29 ⟨[(0, .d t36 a0)], []⟩ (fin29 r)
 unfold F29 at h
 refine qN [] 100 ⟨[(1, .ptr 100 0)], [(100, bx t36 a0)]⟩ aN ?_
 obtain ⟨y1, h_y1, h⟩ := bnd_elim h
 rcases bif_elim h with ⟨hb1, h⟩ | ⟨hb1, h⟩
 ·refine qN [(2, .call (.d t4 y1)), (3, .b true)] 200 ⟨[(2, .d t4 true)], []⟩ (aC (c55 h_y1) (aC hb1 aN)) ?_
  refine Run.rt ?_
  obtain rfl := sI h
  exact qR [(.d t4 true)]
 ·obtain ⟨y2, h_y2, h⟩ := bnd_elim h
  rcases bif_elim h with ⟨hb3, h⟩ | ⟨hb3, h⟩
  ·refine qN [(2, .call (.d t4 y1)), (3, .b false), (6, .call (.d t4 y2)), (8, .b true)] 200 ⟨[(2, .d t4 true)], []⟩ (aC (c55 h_y1) (aC hb1 (aC (c55 h_y2) (aC hb3 aN)))) ?_
   refine Run.rt ?_
   obtain rfl := sI h
   exact qR [(.d t4 true)]
  ·obtain ⟨y3, h_y3, h⟩ := bnd_elim h
   refine qN [(2, .call (.d t4 y1)), (3, .b false), (6, .call (.d t4 y2)), (8, .b false), (11, .call (.d t4 y3))] 200 ⟨[(2, .d t4 y3)], []⟩ (aC (c55 h_y1) (aC hb1 (aC (c55 h_y2) (aC hb3 (aC (c55 h_y3) aN))))) ?_
   refine Run.rt ?_
   obtain rfl := sI h
   exact qR [(.d t4 y3)]

/-! ## f30 -/

noncomputable def c_30 : Code := body0 Go.Proofs.Tryz.f30

def fin30 (r : (Int × Int)) : Ex → St → Prop := endK X0 [.cell 2 26] [26] (.d t25 r)

def F30 (a0 : Int × Int × Int) : Option ((Int × Int)) :=
 some (a0.1, a0.2.1)

theorem c30 {a0 : Int × Int × Int} {r : (Int × Int)} (h : F30 a0 = some r) : CallPure Pg 30 [(.d t36 a0)] (.d t25 r) := by
 refine qC c_30 8 [.cell 2 26] [26] Go.Proofs.Tryz.func30 ?_
 show Run Pg 8 c_30 ⟨[(0, .d t36 a0)], []⟩ (fin30 r)
 unfold F30 at h
 refine qN [] 100 ⟨[(1, .ptr 100 0), (2, .ptr 101 0)], [(100, bx t36 a0), (101, bx t25 ((0 : Int), (0 : Int)))]⟩ aN ?_
 refine qN [] 200 ⟨[(2, .ptr 101 0)], [(101, bx t25 (a0.1, a0.2.1))]⟩ aN ?_
 refine Run.rt ?_
 obtain rfl := sI h
 exact qR [(.d t25 (a0.1, a0.2.1))]

/-! ## f31 -/

noncomputable def c_31 : Code := body0 Go.Proofs.Tryz.f31

def fin31s0 (a3 : List (Int × (Int × Int × Int) × (Int × Int) × Int)) (r : (Int × Int × Int) × (List (Int × (Int × Int × Int) × (Int × Int) × Int))) : Ex → St → Prop := endR X0 [.cell 6 66] [66] (.agg (.vcons (.d t36 r.1) (.vcons (.vec 900000 t68) .vnil))) [(900000, .vec 69 t68 r.2)]

def f31s0_c0_post (x1 : Int) (x2 : Int) (x3 : Bool) (x4 : Int × Int × Int) (x5 : Int × Int × Int) (x6 : (Int × Int × Int) × (List (Int × (Int × Int × Int) × (Int × Int) × Int))) (x7 : List (Int × (Int × Int × Int) × (Int × Int) × Int)) : (Int) → Ex → St → Prop
 | o, x, s => x = .nrm ∧ s = ⟨[(2, .d t2 x1), (3, .ptr 100 0), (4, .ptr 101 0), (6, .ptr 102 0), (7, .d t2 o)], [(100, .box (.vcons (.d t36 x4) (.vcons (.vec 900000 t68) .vnil))), (101, bx t36 x5), (102, bx t58 x6), (900000, .vec 69 t68 x7)]⟩

def f31s0_c0 (x2 : Int) (x3 : Bool) : Option (Int) :=
 (bif x3 then
 some (2 : Int)
 else
 some x2)

theorem f31s0_c0_ok (x1 : Int) (x2 : Int) (x3 : Bool) (x4 : Int × Int × Int) (x5 : Int × Int × Int) (x6 : (Int × Int × Int) × (List (Int × (Int × Int × Int) × (Int × Int) × Int))) (x7 : List (Int × (Int × Int × Int) × (Int × Int) × Int)) {out : (Int)} (h : f31s0_c0 x2 x3 = some out) : Run Pg 25 (sq2 (sq1 (sq2 (sq2 (sq2 c_31))))) ⟨[(2, .d t2 x1), (3, .ptr 100 0), (4, .ptr 101 0), (6, .ptr 102 0), (7, .d t2 x2), (14, .d t4 x3)], [(100, .box (.vcons (.d t36 x4) (.vcons (.vec 900000 t68) .vnil))), (101, bx t36 x5), (102, bx t58 x6), (900000, .vec 69 t68 x7)]⟩ (f31s0_c0_post x1 x2 x3 x4 x5 x6 x7 out) := by
 unfold f31s0_c0 at h
 refine Run.cd x3 (fun hb => ?_) (fun hb => ?_)
 ·replace h := bif_t h hb
  refine qE [] 600 ⟨[(2, .d t2 x1), (3, .ptr 100 0), (4, .ptr 101 0), (6, .ptr 102 0), (7, .d t2 (2 : Int))], [(100, .box (.vcons (.d t36 x4) (.vcons (.vec 900000 t68) .vnil))), (101, bx t36 x5), (102, bx t58 x6), (900000, .vec 69 t68 x7)]⟩ aN ?_
  obtain rfl := sI h
  exact ⟨rfl, by kernel_rfl⟩
 ·replace h := bif_f h hb
  refine qK ⟨[(2, .d t2 x1), (3, .ptr 100 0), (4, .ptr 101 0), (6, .ptr 102 0), (7, .d t2 x2)], [(100, .box (.vcons (.d t36 x4) (.vcons (.vec 900000 t68) .vnil))), (101, bx t36 x5), (102, bx t58 x6), (900000, .vec 69 t68 x7)]⟩ ?_
  refine Run.sk ?_
  obtain rfl := sI h
  exact ⟨rfl, by kernel_rfl⟩

def F31s0 (a0 : Int × Int × Int) (a1 : Int × Int × Int) (a2 : Int) (a3 : List (Int × (Int × Int × Int) × (Int × Int) × Int)) : Option ((Int × Int × Int) × (List (Int × (Int × Int × Int) × (Int × Int) × Int))) :=
 (bif (eqD t36 a1 a0) then
 some (a0, a3)
 else
 ((f31s0_c0 (1 : Int) (decide ((0 : Int) < a2))).bind fun o8 =>
 gd (List.length (a3 ++ ([(o8, a1, ((0 : Int), (0 : Int)), a2)] : List (Int × (Int × Int × Int) × (Int × Int) × Int))) ≤ 1073741824) <|
 some (a1, (a3 ++ ([(o8, a1, ((0 : Int), (0 : Int)), a2)] : List (Int × (Int × Int × Int) × (Int × Int) × Int))))))

theorem c31s0 {a0 : Int × Int × Int} {a1 : Int × Int × Int} {a2 : Int} {a3 : List (Int × (Int × Int × Int) × (Int × Int) × Int)} {r : (Int × Int × Int) × (List (Int × (Int × Int × Int) × (Int × Int) × Int))} (h : F31s0 a0 a1 a2 a3 = some r) : CallSt Pg 31 [(.agg (.vcons (.d t36 a0) (.vcons (.vec 900000 t68) .vnil))), (.d t36 a1), (.d t2 a2)] [(900000, .vec 69 t68 a3)] (.agg (.vcons (.d t36 r.1) (.vcons (.vec 900000 t68) .vnil))) [(900000, .vec 69 t68 r.2)] := by
 refine callStR hX c_31 25 [.cell 6 66] [66] Go.Proofs.Tryz.func31 (by kernel_rfl) (by kernel_rfl) (by kernel_rfl) (Nat.le_of_ble_eq_true rfl)  ?_
 show Run Pg 25 c_31 ⟨[(0, .agg (.vcons (.d t36 a0) (.vcons (.vec 900000 t68) .vnil))), (1, .d t36 a1), (2, .d t2 a2)], [(900000, .vec 69 t68 a3)]⟩ (fin31s0 a3 r)
 unfold F31s0 at h
 refine qN [] 100 ⟨[(2, .d t2 a2), (3, .ptr 100 0), (4, .ptr 101 0), (6, .ptr 102 0)], [(100, .box (.vcons (.d t36 a0) (.vcons (.vec 900000 t68) .vnil))), (101, bx t36 a1), (102, bx t58 (((0 : Int), (0 : Int), (0 : Int)), ([] : List (Int × (Int × Int × Int) × (Int × Int) × Int)))), (900000, .vec 69 t68 a3)]⟩ aN ?_
 refine Run.sq ?_
 refine qN [] 200 ⟨[(2, .d t2 a2), (3, .ptr 100 0), (4, .ptr 101 0), (6, .ptr 102 0), (11, .d t4 (eqD t36 a1 a0))], [(100, .box (.vcons (.d t36 a0) (.vcons (.vec 900000 t68) .vnil))), (101, bx t36 a1), (102, bx t58 (((0 : Int), (0 : Int), (0 : Int)), ([] : List (Int × (Int × Int × Int) × (Int × Int) × Int)))), (900000, .vec 69 t68 a3)]⟩ aN ?_
 refine Run.cd (eqD t36 a1 a0) (fun hb => ?_) (fun hb => ?_)
 ·replace h := bif_t h hb
  refine qN [] 300 ⟨[(6, .ptr 102 0)], [(102, .box (.vcons (.d t36 a0) (.vcons (.vec 900000 t68) .vnil))), (900000, .vec 69 t68 a3)]⟩ aN ?_
  refine Run.rt ?_
  obtain rfl := sI h
  exact ⟨[(.agg (.vcons (.d t36 a0) (.vcons (.vec 900000 t68) .vnil)))], ⟨[], [(900000, .vec 69 t68 a3)]⟩, by kernel_rfl, by kernel_rfl, by kernel_rfl, by kernel_rfl⟩
 ·replace h := bif_f h hb
  refine Run.sk ?_
  show Run Pg 25 _ _ _
  refine qN [] 400 ⟨[(2, .d t2 a2), (3, .ptr 100 0), (4, .ptr 101 0), (6, .ptr 102 0), (7, .d t2 (1 : Int))], [(100, .box (.vcons (.d t36 a0) (.vcons (.vec 900000 t68) .vnil))), (101, bx t36 a1), (102, bx t58 (((0 : Int), (0 : Int), (0 : Int)), ([] : List (Int × (Int × Int × Int) × (Int × Int) × Int)))), (900000, .vec 69 t68 a3)]⟩ aN ?_
  refine Run.sq ?_
  refine qN [] 500 ⟨[(2, .d t2 a2), (3, .ptr 100 0), (4, .ptr 101 0), (6, .ptr 102 0), (7, .d t2 (1 : Int)), (14, .d t4 (decide ((0 : Int) < a2)))], [(100, .box (.vcons (.d t36 a0) (.vcons (.vec 900000 t68) .vnil))), (101, bx t36 a1), (102, bx t58 (((0 : Int), (0 : Int), (0 : Int)), ([] : List (Int × (Int × Int × Int) × (Int × Int) × Int)))), (900000, .vec 69 t68 a3)]⟩ aN ?_
  obtain ⟨o8, h_o8, h⟩ := bnd_elim h
  refine Run.mono (f31s0_c0_ok a2 (1 : Int) (decide ((0 : Int) < a2)) a0 a1 (((0 : Int), (0 : Int), (0 : Int)), ([] : List (Int × (Int × Int × Int) × (Int × Int) × Int))) a3 h_o8) ?_
  rintro _ _ ⟨rfl, rfl⟩
  show Run Pg 25 _ _ _
  obtain ⟨g_0, h⟩ := gd_elim h
  refine qN [(9, .part)] 700 ⟨[(6, .ptr 102 0)], [(102, .box (.vcons (.d t36 a1) (.vcons (.vec 900000 t68) .vnil))), (900000, .vec 69 t68 (a3 ++ ([(o8, a1, ((0 : Int), (0 : Int)), a2)] : List (Int × (Int × Int × Int) × (Int × Int) × Int))))]⟩ (aC g_0 aN) ?_
  refine Run.rt ?_
  obtain rfl := sI h
  exact ⟨[(.agg (.vcons (.d t36 a1) (.vcons (.vec 900000 t68) .vnil)))], ⟨[], [(900000, .vec 69 t68 (a3 ++ ([(o8, a1, ((0 : Int), (0 : Int)), a2)] : List (Int × (Int × Int × Int) × (Int × Int) × Int))))]⟩, by kernel_rfl, by kernel_rfl, by kernel_rfl, by kernel_rfl⟩

/-! ## f32 -/

noncomputable def c_32 : Code := body0 Go.Proofs.Tryz.f32

def fin32s0 (a3 : List (Int × (Int × Int × Int) × (Int × Int) × Int)) (r : (Int × Int × Int) × (List (Int × (Int × Int × Int) × (Int × Int) × Int))) : Ex → St → Prop := endR X0 [.cell 6 66] [66] (.agg (.vcons (.d t36 r.1) (.vcons (.vec 900000 t68) .vnil))) [(900000, .vec 69 t68 r.2)]

def f32s0_c0_post (x1 : Int) (x2 : Bool) (x3 : Int × Int × Int) (x4 : Int × Int × Int) (x5 : (Int × Int × Int) × (List (Int × (Int × Int × Int) × (Int × Int) × Int))) (x6 : List (Int × (Int × Int × Int) × (Int × Int) × Int)) : ((Int × Int × Int)) → Ex → St → Prop
 | o, x, s => x = .nrm ∧ s = ⟨[(2, .d t2 x1), (3, .ptr 100 0), (4, .ptr 101 0), (6, .ptr 102 0), (7, .ptr 201 0)], [(100, .box (.vcons (.d t36 x3) (.vcons (.vec 900000 t68) .vnil))), (101, bx t36 x4), (102, bx t58 x5), (201, bx t36 o), (900000, .vec 69 t68 x6)]⟩

def f32s0_c0 (x2 : Bool) (x4 : Int × Int × Int) : Option ((Int × Int × Int)) :=
 (bif x2 then
 some (x4.1, x4.2.1, (1000 : Int))
 else
 some x4)

theorem f32s0_c0_ok (x1 : Int) (x2 : Bool) (x3 : Int × Int × Int) (x4 : Int × Int × Int) (x5 : (Int × Int × Int) × (List (Int × (Int × Int × Int) × (Int × Int) × Int))) (x6 : List (Int × (Int × Int × Int) × (Int × Int) × Int)) {out : ((Int × Int × Int))} (h : f32s0_c0 x2 x4 = some out) : Run Pg 30 (sq2 (sq1 (sq2 (sq2 c_32)))) ⟨[(2, .d t2 x1), (3, .ptr 100 0), (4, .ptr 101 0), (6, .ptr 102 0), (7, .ptr 201 0), (11, .d t4 x2)], [(100, .box (.vcons (.d t36 x3) (.vcons (.vec 900000 t68) .vnil))), (101, bx t36 x4), (102, bx t58 x5), (201, bx t36 x4), (900000, .vec 69 t68 x6)]⟩ (f32s0_c0_post x1 x2 x3 x4 x5 x6 out) := by
 unfold f32s0_c0 at h
 refine Run.cd x2 (fun hb => ?_) (fun hb => ?_)
 ·replace h := bif_t h hb
  refine qE [] 400 ⟨[(2, .d t2 x1), (3, .ptr 100 0), (4, .ptr 101 0), (6, .ptr 102 0), (7, .ptr 201 0)], [(100, .box (.vcons (.d t36 x3) (.vcons (.vec 900000 t68) .vnil))), (101, bx t36 x4), (102, bx t58 x5), (201, bx t36 (x4.1, x4.2.1, (1000 : Int))), (900000, .vec 69 t68 x6)]⟩ aN ?_
  obtain rfl := sI h
  exact ⟨rfl, by kernel_rfl⟩
 ·replace h := bif_f h hb
  refine qK ⟨[(2, .d t2 x1), (3, .ptr 100 0), (4, .ptr 101 0), (6, .ptr 102 0), (7, .ptr 201 0)], [(100, .box (.vcons (.d t36 x3) (.vcons (.vec 900000 t68) .vnil))), (101, bx t36 x4), (102, bx t58 x5), (201, bx t36 x4), (900000, .vec 69 t68 x6)]⟩ ?_
  refine Run.sk ?_
  obtain rfl := sI h
  exact ⟨rfl, by kernel_rfl⟩

def f32s0_c1_post (x8 : Int) (x9 : Bool) (x10 : Int × Int × Int) (x11 : Int × Int × Int) (x12 : (Int × Int × Int) × (List (Int × (Int × Int × Int) × (Int × Int) × Int))) (x13 : Int × Int × Int) (x14 : List (Int × (Int × Int × Int) × (Int × Int) × Int)) : ((Int × Int × Int) × (List (Int × (Int × Int × Int) × (Int × Int) × Int))) → Ex → St → Prop
 | o, x, s => x = .nrm ∧ s = ⟨[(2, .d t2 x8), (3, .ptr 100 0), (4, .ptr 101 0), (6, .ptr 102 0)], [(100, .box (.vcons (.d t36 o.1) (.vcons (.vec 900000 t68) .vnil))), (101, bx t36 x11), (102, bx t58 x12), (900000, .vec 69 t68 o.2)]⟩

def f32s0_c1 (x9 : Bool) (x10 : Int × Int × Int) (x13 : Int × Int × Int) (x14 : List (Int × (Int × Int × Int) × (Int × Int) × Int)) : Option ((Int × Int × Int) × (List (Int × (Int × Int × Int) × (Int × Int) × Int))) :=
 (bif x9 then
 (F31s0 x10 x13 (0 : Int) x14).bind fun y16 =>
 some (y16.1, y16.2)
 else
 some (x10, x14))

theorem f32s0_c1_ok (x8 : Int) (x9 : Bool) (x10 : Int × Int × Int) (x11 : Int × Int × Int) (x12 : (Int × Int × Int) × (List (Int × (Int × Int × Int) × (Int × Int) × Int))) (x13 : Int × Int × Int) (x14 : List (Int × (Int × Int × Int) × (Int × Int) × Int)) {out : ((Int × Int × Int) × (List (Int × (Int × Int × Int) × (Int × Int) × Int)))} (h : f32s0_c1 x9 x10 x13 x14 = some out) : Run Pg 30 (sq2 (sq1 (sq2 (sq2 (sq2 c_32))))) ⟨[(2, .d t2 x8), (3, .ptr 100 0), (4, .ptr 101 0), (6, .ptr 102 0), (7, .ptr 201 0), (18, .d t4 x9)], [(100, .box (.vcons (.d t36 x10) (.vcons (.vec 900000 t68) .vnil))), (101, bx t36 x11), (102, bx t58 x12), (201, bx t36 x13), (900000, .vec 69 t68 x14)]⟩ (f32s0_c1_post x8 x9 x10 x11 x12 x13 x14 out) := by
 unfold f32s0_c1 at h
 refine Run.cd x9 (fun hb => ?_) (fun hb => ?_)
 ·replace h := bif_t h hb
  obtain ⟨y16, h_y16, h⟩ := bnd_elim h
  refine qE [(2, .callS [(900000, .vec 69 t68 x14)] [(.agg (.vcons (.d t36 x10) (.vcons (.vec 900000 t68) .vnil))), (.d t36 x13), (.d t2 (0 : Int))] [(900000, 900000)] (.agg (.vcons (.d t36 y16.1) (.vcons (.vec 900000 t68) .vnil))) [(900000, .vec 69 t68 y16.2)])] 600 ⟨[(2, .d t2 x8), (3, .ptr 100 0), (4, .ptr 101 0), (6, .ptr 102 0)], [(100, .box (.vcons (.d t36 y16.1) (.vcons (.vec 900000 t68) .vnil))), (101, bx t36 x11), (102, bx t58 x12), (900000, .vec 69 t68 y16.2)]⟩ (aC (show (([(.agg (.vcons (.d t36 x10) (.vcons (.vec 900000 t68) .vnil))), (.d t36 x13), (.d t2 (0 : Int))] : List V) = List.map (V.ren (renL [(900000, 900000)] 602)) [(.agg (.vcons (.d t36 x10) (.vcons (.vec 900000 t68) .vnil))), (.d t36 x13), (.d t2 (0 : Int))]) from (by kernel_rfl)) (aC (c31s0 h_y16) (aC (show ((some (.vec 69 t68 x14) : Option E) = some (E.ren (renL [(900000, 900000)] 602) (.vec 69 t68 x14))) from (by kernel_rfl)) aN))) ?_
  obtain rfl := sI h
  exact ⟨rfl, by kernel_rfl⟩
 ·replace h := bif_f h hb
  refine qK ⟨[(2, .d t2 x8), (3, .ptr 100 0), (4, .ptr 101 0), (6, .ptr 102 0)], [(100, .box (.vcons (.d t36 x10) (.vcons (.vec 900000 t68) .vnil))), (101, bx t36 x11), (102, bx t58 x12), (900000, .vec 69 t68 x14)]⟩ ?_
  refine Run.sk ?_
  obtain rfl := sI h
  exact ⟨rfl, by kernel_rfl⟩

def f32s0_c2_post (x18 : Int) (x19 : Bool) (x20 : Int × Int × Int) (x21 : Int × Int × Int) (x22 : (Int × Int × Int) × (List (Int × (Int × Int × Int) × (Int × Int) × Int))) (x23 : List (Int × (Int × Int × Int) × (Int × Int) × Int)) : ((Int × Int × Int) × (List (Int × (Int × Int × Int) × (Int × Int) × Int))) → Ex → St → Prop
 | o, x, s => x = .nrm ∧ s = ⟨[(3, .ptr 100 0), (6, .ptr 102 0)], [(100, .box (.vcons (.d t36 o.1) (.vcons (.vec 900000 t68) .vnil))), (102, bx t58 x22), (900000, .vec 69 t68 o.2)]⟩

def f32s0_c2 (x18 : Int) (x19 : Bool) (x20 : Int × Int × Int) (x21 : Int × Int × Int) (x23 : List (Int × (Int × Int × Int) × (Int × Int) × Int)) : Option ((Int × Int × Int) × (List (Int × (Int × Int × Int) × (Int × Int) × Int))) :=
 (bif x19 then
 (F31s0 x20 x21 x18 x23).bind fun y25 =>
 some (y25.1, y25.2)
 else
 some (x20, x23))

theorem f32s0_c2_ok (x18 : Int) (x19 : Bool) (x20 : Int × Int × Int) (x21 : Int × Int × Int) (x22 : (Int × Int × Int) × (List (Int × (Int × Int × Int) × (Int × Int) × Int))) (x23 : List (Int × (Int × Int × Int) × (Int × Int) × Int)) {out : ((Int × Int × Int) × (List (Int × (Int × Int × Int) × (Int × Int) × Int)))} (h : f32s0_c2 x18 x19 x20 x21 x23 = some out) : Run Pg 30 (sq2 (sq1 (sq2 (sq2 (sq2 (sq2 c_32)))))) ⟨[(2, .d t2 x18), (3, .ptr 100 0), (4, .ptr 101 0), (6, .ptr 102 0), (24, .d t4 x19)], [(100, .box (.vcons (.d t36 x20) (.vcons (.vec 900000 t68) .vnil))), (101, bx t36 x21), (102, bx t58 x22), (900000, .vec 69 t68 x23)]⟩ (f32s0_c2_post x18 x19 x20 x21 x22 x23 out) := by
 unfold f32s0_c2 at h
 refine Run.cd x19 (fun hb => ?_) (fun hb => ?_)
 ·replace h := bif_t h hb
  obtain ⟨y25, h_y25, h⟩ := bnd_elim h
  refine qE [(3, .callS [(900000, .vec 69 t68 x23)] [(.agg (.vcons (.d t36 x20) (.vcons (.vec 900000 t68) .vnil))), (.d t36 x21), (.d t2 x18)] [(900000, 900000)] (.agg (.vcons (.d t36 y25.1) (.vcons (.vec 900000 t68) .vnil))) [(900000, .vec 69 t68 y25.2)])] 800 ⟨[(3, .ptr 100 0), (6, .ptr 102 0)], [(100, .box (.vcons (.d t36 y25.1) (.vcons (.vec 900000 t68) .vnil))), (102, bx t58 x22), (900000, .vec 69 t68 y25.2)]⟩ (aC (show (([(.agg (.vcons (.d t36 x20) (.vcons (.vec 900000 t68) .vnil))), (.d t36 x21), (.d t2 x18)] : List V) = List.map (V.ren (renL [(900000, 900000)] 803)) [(.agg (.vcons (.d t36 x20) (.vcons (.vec 900000 t68) .vnil))), (.d t36 x21), (.d t2 x18)]) from (by kernel_rfl)) (aC (c31s0 h_y25) (aC (show ((some (.vec 69 t68 x23) : Option E) = some (E.ren (renL [(900000, 900000)] 803) (.vec 69 t68 x23))) from (by kernel_rfl)) aN))) ?_
  obtain rfl := sI h
  exact ⟨rfl, by kernel_rfl⟩
 ·replace h := bif_f h hb
  refine qK ⟨[(3, .ptr 100 0), (6, .ptr 102 0)], [(100, .box (.vcons (.d t36 x20) (.vcons (.vec 900000 t68) .vnil))), (102, bx t58 x22), (900000, .vec 69 t68 x23)]⟩ ?_
  refine Run.sk ?_
  obtain rfl := sI h
  exact ⟨rfl, by kernel_rfl⟩

def F32s0 (a0 : Int × Int × Int) (a1 : Int × Int × Int) (a2 : Int) (a3 : List (Int × (Int × Int × Int) × (Int × Int) × Int)) : Option ((Int × Int × Int) × (List (Int × (Int × Int × Int) × (Int × Int) × Int))) :=
 ((f32s0_c0 (decide (a1.2.2 < (1000 : Int))) a1).bind fun o7 =>
 ((f32s0_c1 (decide (o7.2.2 < a0.2.2)) a0 o7 a3).bind fun o17 =>
 ((f32s0_c2 a2 (decide (a1.2.2 < (1000 : Int))) o17.1 a1 o17.2).bind fun o26 =>
 some (o26.1, o26.2))))

theorem c32s0 {a0 : Int × Int × Int} {a1 : Int × Int × Int} {a2 : Int} {a3 : List (Int × (Int × Int × Int) × (Int × Int) × Int)} {r : (Int × Int × Int) × (List (Int × (Int × Int × Int) × (Int × Int) × Int))} (h : F32s0 a0 a1 a2 a3 = some r) : CallSt Pg 32 [(.agg (.vcons (.d t36 a0) (.vcons (.vec 900000 t68) .vnil))), (.d t36 a1), (.d t2 a2)] [(900000, .vec 69 t68 a3)] (.agg (.vcons (.d t36 r.1) (.vcons (.vec 900000 t68) .vnil))) [(900000, .vec 69 t68 r.2)] := by
 refine callStR hX c_32 30 [.cell 6 66] [66] Go.Proofs.Tryz.func32 (by kernel_rfl) (by kernel_rfl) (by kernel_rfl) (Nat.le_of_ble_eq_true rfl)  ?_
 show Run Pg 30 c_32 ⟨[(0, .agg (.vcons (.d t36 a0) (.vcons (.vec 900000 t68) .vnil))), (1, .d t36 a1), (2, .d t2 a2)], [(900000, .vec 69 t68 a3)]⟩ (fin32s0 a3 r)
 unfold F32s0 at h
 refine qN [] 100 ⟨[(2, .d t2 a2), (3, .ptr 100 0), (4, .ptr 101 0), (6, .ptr 102 0)], [(100, .box (.vcons (.d t36 a0) (.vcons (.vec 900000 t68) .vnil))), (101, bx t36 a1), (102, bx t58 (((0 : Int), (0 : Int), (0 : Int)), ([] : List (Int × (Int × Int × Int) × (Int × Int) × Int)))), (900000, .vec 69 t68 a3)]⟩ aN ?_
 refine qN [] 200 ⟨[(2, .d t2 a2), (3, .ptr 100 0), (4, .ptr 101 0), (6, .ptr 102 0), (7, .ptr 201 0)], [(100, .box (.vcons (.d t36 a0) (.vcons (.vec 900000 t68) .vnil))), (101, bx t36 a1), (102, bx t58 (((0 : Int), (0 : Int), (0 : Int)), ([] : List (Int × (Int × Int × Int) × (Int × Int) × Int)))), (201, bx t36 a1), (900000, .vec 69 t68 a3)]⟩ aN ?_
 refine Run.sq ?_
 refine qN [] 300 ⟨[(2, .d t2 a2), (3, .ptr 100 0), (4, .ptr 101 0), (6, .ptr 102 0), (7, .ptr 201 0), (11, .d t4 (decide (a1.2.2 < (1000 : Int))))], [(100, .box (.vcons (.d t36 a0) (.vcons (.vec 900000 t68) .vnil))), (101, bx t36 a1), (102, bx t58 (((0 : Int), (0 : Int), (0 : Int)), ([] : List (Int × (Int × Int × Int) × (Int × Int) × Int)))), (201, bx t36 a1), (900000, .vec 69 t68 a3)]⟩ aN ?_
 obtain ⟨o7, h_o7, h⟩ := bnd_elim h
 refine Run.mono (f32s0_c0_ok a2 (decide (a1.2.2 < (1000 : Int))) a0 a1 (((0 : Int), (0 : Int), (0 : Int)), ([] : List (Int × (Int × Int × Int) × (Int × Int) × Int))) a3 h_o7) ?_
 rintro _ _ ⟨rfl, rfl⟩
 show Run Pg 30 _ _ _
 refine Run.sq ?_
 refine qN [] 500 ⟨[(2, .d t2 a2), (3, .ptr 100 0), (4, .ptr 101 0), (6, .ptr 102 0), (7, .ptr 201 0), (18, .d t4 (decide (o7.2.2 < a0.2.2)))], [(100, .box (.vcons (.d t36 a0) (.vcons (.vec 900000 t68) .vnil))), (101, bx t36 a1), (102, bx t58 (((0 : Int), (0 : Int), (0 : Int)), ([] : List (Int × (Int × Int × Int) × (Int × Int) × Int)))), (201, bx t36 o7), (900000, .vec 69 t68 a3)]⟩ aN ?_
 obtain ⟨o17, h_o17, h⟩ := bnd_elim h
 refine Run.mono (f32s0_c1_ok a2 (decide (o7.2.2 < a0.2.2)) a0 a1 (((0 : Int), (0 : Int), (0 : Int)), ([] : List (Int × (Int × Int × Int) × (Int × Int) × Int))) o7 a3 h_o17) ?_
 rintro _ _ ⟨rfl, rfl⟩
 show Run Pg 30 _ _ _
 refine Run.sq ?_
 refine qN [] 700 ⟨[(2, .d t2 a2), (3, .ptr 100 0), (4, .ptr 101 0), (6, .ptr 102 0), (24, .d t4 (decide (a1.2.2 < (1000 : Int))))], [(100, .box (.vcons (.d t36 o17.1) (.vcons (.vec 900000 t68) .vnil))), (101, bx t36 a1), (102, bx t58 (((0 : Int), (0 : Int), (0 : Int)), ([] : List (Int × (Int × Int × Int) × (Int × Int) × Int)))), (900000, .vec 69 t68 o17.2)]⟩ aN ?_
 obtain ⟨o26, h_o26, h⟩ := bnd_elim h
 refine Run.mono (f32s0_c2_ok a2 (decide (a1.2.2 < (1000 : Int))) o17.1 a1 (((0 : Int), (0 : Int), (0 : Int)), ([] : List (Int × (Int × Int × Int) × (Int × Int) × Int))) o17.2 h_o26) ?_
 rintro _ _ ⟨rfl, rfl⟩
 show Run Pg 30 _ _ _
 refine qN [] 900 ⟨[(6, .ptr 102 0)], [(102, .box (.vcons (.d t36 o26.1) (.vcons (.vec 900000 t68) .vnil))), (900000, .vec 69 t68 o26.2)]⟩ aN ?_
 refine Run.rt ?_
 obtain rfl := sI h
 exact ⟨[(.agg (.vcons (.d t36 o26.1) (.vcons (.vec 900000 t68) .vnil)))], ⟨[], [(900000, .vec 69 t68 o26.2)]⟩, by kernel_rfl, by kernel_rfl, by kernel_rfl, by kernel_rfl⟩

/-! ## f66 -/

noncomputable def c_66 : Code := body0 Go.Proofs.Tryz.f66

def fin66 (r : Bool) : Ex → St → Prop := endK X0 [.tmp 4] [4] (.d t4 r)

def F66 (a0 : Int × Int × Int × Int × Int) (a1 : Int × Int) : Option (Bool) :=
 (bif (decide (a0.1 ≤ a1.1)) then
 (bif (decide (a1.1 ≤ a0.2.2.1)) then
 (bif (decide (a0.2.1 ≤ a1.2)) then
 some (decide (a1.2 ≤ a0.2.2.2.1))
 else
 some false)
 else
 some false)
 else
 some false)

theorem c66 {a0 : Int × Int × Int × Int × Int} {a1 : Int × Int} {r : Bool} (h : F66 a0 a1 = some r) : CallPure Pg 66 [(.d t33 a0), (.d t25 a1)] (.d t4 r) := by
 refine qC c_66 31 [.tmp 4] [4] Go.Proofs.Tryz.func66 ?_
 show Run Pg 31 c_66 ⟨[(0, .d t33 a0), (1, .d t25 a1)], []⟩ (fin66 r)
 unfold F66 at h
 refine qN [] 100 ⟨[(2, .ptr 100 0), (3, .ptr 101 0)], [(100, bx t33 a0), (101, bx t25 a1)]⟩ aN ?_
 rcases bif_elim h with ⟨hb0, h⟩ | ⟨hb0, h⟩
 ·rcases bif_elim h with ⟨hb1, h⟩ | ⟨hb1, h⟩
  ·rcases bif_elim h with ⟨hb2, h⟩ | ⟨hb2, h⟩
   ·refine qN [(5, .b true), (12, .b true), (19, .b true)] 200 ⟨[(4, .d t4 (decide (a1.2 ≤ a0.2.2.2.1)))], []⟩ (aC hb0 (aC hb1 (aC hb2 aN))) ?_
    refine Run.rt ?_
    obtain rfl := sI h
    exact qR [(.d t4 (decide (a1.2 ≤ a0.2.2.2.1)))]
   ·refine qN [(5, .b true), (12, .b true), (19, .b false)] 200 ⟨[(4, .d t4 false)], []⟩ (aC hb0 (aC hb1 (aC hb2 aN))) ?_
    refine Run.rt ?_
    obtain rfl := sI h
    exact qR [(.d t4 false)]
  ·refine qN [(5, .b true), (12, .b false)] 200 ⟨[(4, .d t4 false)], []⟩ (aC hb0 (aC hb1 aN)) ?_
   refine Run.rt ?_
   obtain rfl := sI h
   exact qR [(.d t4 false)]
 ·refine qN [(5, .b false)] 200 ⟨[(4, .d t4 false)], []⟩ (aC hb0 aN) ?_
  refine Run.rt ?_
  obtain rfl := sI h
  exact qR [(.d t4 false)]

/-! ## f87 -/

noncomputable def c_87 : Code := body0 Go.Proofs.Tryz.f87

def fin87 (r : (List Int)) : Ex → St → Prop := endK X0 [.tmp 2] [83] (.d t83 r)

def f87_l0_post  : ((List Int)) → Ex → St → Prop
 | o, x, s => x = .out 0 ∧ s = ⟨[(3, .vec 90003 t127)], [(90003, .vec 127 t127 o)]⟩

def f87_l0_b  (again : Int × (List Int) → Option ((List Int))) : Int × (List Int) → Option ((List Int))
 | (x1, x2) =>
 (bif (decide ((0 : Int) < x1)) then
 gd (List.length (x2 ++ ([(wrapI .u32 (Int.tmod x1 (1000000000 : Int)))] : List Int)) ≤ 1073741824) <|
 again ((wrapI .u64 (Int.tdiv x1 (1000000000 : Int))), (x2 ++ ([(wrapI .u32 (Int.tmod x1 (1000000000 : Int)))] : List Int)))
 else
 some x2)

def f87_l0  : Nat → Int × (List Int) → Option ((List Int)) := loopF (f87_l0_b )

theorem f87_l0_ok  (k : Nat) (x1 : Int) (x2 : List Int) {out : ((List Int))} (h : f87_l0  k (x1, x2) = some out) : Run Pg 15 (bk1 (sq1 (sq2 (sq2 c_87)))) ⟨[(0, .d t12 x1), (3, .vec 90003 t127)], [(90003, .vec 127 t127 x2)]⟩ (f87_l0_post  out) := by
 refine Run.loopN (by kernel_rfl) (fun m s => ∃ x1 x2, s = ⟨[(0, .d t12 x1), (3, .vec 90003 t127)], [(90003, .vec 127 t127 x2)]⟩ ∧ f87_l0  m (x1, x2) = some out) ?_ k ⟨x1, x2,  rfl, h⟩
 rintro m s ⟨x1, x2,  rfl, h⟩
 cases m with
 | zero => cases h
 | succ m =>
 replace h : f87_l0_b  (f87_l0  m) (x1, x2) = some out := h
 unfold f87_l0_b at h
 refine Run.sq ?_
 refine qN [] 300 ⟨[(0, .d t12 x1), (3, .vec 90003 t127), (5, .d t4 (decide ((0 : Int) < x1)))], [(90003, .vec 127 t127 x2)]⟩ aN ?_
 refine Run.cd (decide ((0 : Int) < x1)) (fun hb => ?_) (fun hb => ?_)
 ·replace h := bif_t h hb
  refine Run.sk ?_
  show Run Pg 15 _ _ _
  refine Run.bl 1 ?_
  obtain ⟨g_1, h⟩ := gd_elim h
  refine qN [] 400 ⟨[(0, .d t12 x1), (3, .vec 90003 t127)], [(90003, .vec 127 t127 (x2 ++ ([(wrapI .u32 (Int.tmod x1 (1000000000 : Int)))] : List Int)))]⟩ (aC (show ((1000000000 : Int) ≠ 0) from (by decide)) (aC g_1 aN)) ?_
  refine qE [] 500 ⟨[(0, .d t12 (wrapI .u64 (Int.tdiv x1 (1000000000 : Int)))), (3, .vec 90003 t127)], [(90003, .vec 127 t127 (x2 ++ ([(wrapI .u32 (Int.tmod x1 (1000000000 : Int)))] : List Int)))]⟩ (aC (show ((1000000000 : Int) ≠ 0) from (by decide)) aN) ?_
  exact ⟨m, Nat.lt_succ_self m, _, _, rfl, h⟩
 ·replace h := bif_f h hb
  refine qK ⟨[(3, .vec 90003 t127)], [(90003, .vec 127 t127 x2)]⟩ ?_
  refine Run.ex 0 ?_
  obtain rfl := sI h
  exact ⟨rfl, by kernel_rfl⟩

def F87 (a0 : Int) : Option ((List Int)) :=
 ((f87_l0  (6) (a0, ([] : List Int))).bind fun o3 =>
 some o3)

theorem c87 {a0 : Int} {r : (List Int)} (h : F87 a0 = some r) : CallPure Pg 87 [(.d t12 a0)] (.d t83 r) := by
 refine qC c_87 15 [.tmp 2] [83] Go.Proofs.Tryz.func87 ?_
 show Run Pg 15 c_87 ⟨[(0, .d t12 a0)], []⟩ (fin87 r)
 unfold F87 at h
 refine qN [] 100 ⟨[(0, .d t12 a0)], []⟩ aN ?_
 refine qN [] 200 ⟨[(0, .d t12 a0), (3, .nil)], []⟩ aN ?_
 refine Run.sq ?_
 refine Run.bl 0 ?_
 refine Run.name (s' := ⟨[(3, .vec 90003 t127), (0, .d t12 a0), (3, .nil)], [(90003, .vec 127 t127 [])]⟩) 3 90003 127 t127 (by kernel_rfl) ?_
 refine qK ⟨[(0, .d t12 a0), (3, .vec 90003 t127)], [(90003, .vec 127 t127 ([] : List Int))]⟩ ?_
 obtain ⟨o3, h_o3, h⟩ := bnd_elim h
 refine Run.mono (f87_l0_ok  _ a0 ([] : List Int) h_o3) ?_
 rintro _ _ ⟨rfl, rfl⟩
 show Run Pg 15 _ _ _
 refine qN [] 600 ⟨[(2, .vec 90003 t127)], [(90003, .vec 127 t127 o3)]⟩ aN ?_
 refine Run.freeze (s' := ⟨[(2, .d t83 o3)], []⟩) 90003 (by kernel_rfl) ?_
 refine Run.rt ?_
 obtain rfl := sI h
 exact qR [(.d t83 o3)]

/-! ## f103 -/

noncomputable def c_103 : Code := body0 Go.Proofs.Tryz.f103

def fin103 (r : (List Int)) : Ex → St → Prop := endK X0 [.tmp 2] [83] (.d t83 r)

def f103_l0_post  : ((List Int)) → Ex → St → Prop
 | o, x, s => x = .out 0 ∧ s = ⟨[(0, .d t83 o)], []⟩

def f103_l0_b  (again : (List Int) → Option ((List Int))) : (List Int) → Option ((List Int))
 | x1 =>
 (bif (decide ((0 : Int) < (ofN (List.length x1)))) then
 gd (0 ≤ (wrapI .i64 ((ofN (List.length x1)) - (1 : Int)))) <|
 gd ((wrapI .i64 ((ofN (List.length x1)) - (1 : Int))) < ((List.length x1 : Nat) : Int)) <|
 (bif ((List.getD x1 (toN (wrapI .i64 ((ofN (List.length x1)) - (1 : Int)))) (0 : Int)) == (0 : Int)) then
 gd (0 ≤ (wrapI .i64 ((ofN (List.length x1)) - (1 : Int)))) <|
 gd ((wrapI .i64 ((ofN (List.length x1)) - (1 : Int))) ≤ ((List.length x1 : Nat) : Int)) <|
 again (List.take (Int.toNat (wrapI .i64 ((ofN (List.length x1)) - (1 : Int)))) x1)
 else
 some x1)
 else
 some x1)

def f103_l0  : Nat → (List Int) → Option ((List Int)) := loopF (f103_l0_b )

theorem f103_l0_ok  (k : Nat) (x1 : List Int) {out : ((List Int))} (h : f103_l0  k x1 = some out) : Run Pg 21 (bk1 (sq1 (sq2 c_103))) ⟨[(0, .d t83 x1)], []⟩ (f103_l0_post  out) := by
 refine Run.loopN (by kernel_rfl) (fun m s => ∃ x1, s = ⟨[(0, .d t83 x1)], []⟩ ∧ f103_l0  m x1 = some out) ?_ k ⟨x1,  rfl, h⟩
 rintro m s ⟨x1,  rfl, h⟩
 cases m with
 | zero => cases h
 | succ m =>
 replace h : f103_l0_b  (f103_l0  m) x1 = some out := h
 unfold f103_l0_b at h
 refine Run.sq ?_
 rcases bif_elim h with ⟨hb0, h⟩ | ⟨hb0, h⟩
 ·obtain ⟨g_1, h⟩ := gd_elim h
  obtain ⟨g_2, h⟩ := gd_elim h
  refine qN [(3, .b true)] 200 ⟨[(0, .d t83 x1), (14, .d t4 ((List.getD x1 (toN (wrapI .i64 ((ofN (List.length x1)) - (1 : Int)))) (0 : Int)) == (0 : Int)))], []⟩ (aC hb0 (aC g_1 (aC g_2 aN))) ?_
  refine Run.cd ((List.getD x1 (toN (wrapI .i64 ((ofN (List.length x1)) - (1 : Int)))) (0 : Int)) == (0 : Int)) (fun hb => ?_) (fun hb => ?_)
  ·replace h := bif_t h hb
   refine Run.sk ?_
   show Run Pg 21 _ _ _
   refine Run.bl 1 ?_
   obtain ⟨g_0, h⟩ := gd_elim h
   obtain ⟨g_1, h⟩ := gd_elim h
   refine qE [] 300 ⟨[(0, .d t83 (List.take (Int.toNat (wrapI .i64 ((ofN (List.length x1)) - (1 : Int)))) x1))], []⟩ (aC g_0 (aC g_1 aN)) ?_
   exact ⟨m, Nat.lt_succ_self m, _, rfl, h⟩
  ·replace h := bif_f h hb
   refine qK ⟨[(0, .d t83 x1)], []⟩ ?_
   refine Run.ex 0 ?_
   obtain rfl := sI h
   exact ⟨rfl, by kernel_rfl⟩
 ·refine qN [(3, .b false)] 200 ⟨[(0, .d t83 x1), (14, .d t4 false)], []⟩ (aC hb0 aN) ?_
  refine Run.cd false (fun hb => (by cases hb)) (fun hb => ?_)
  refine qK ⟨[(0, .d t83 x1)], []⟩ ?_
  refine Run.ex 0 ?_
  obtain rfl := sI h
  exact ⟨rfl, by kernel_rfl⟩

def F103 (a0 : List Int) : Option ((List Int)) :=
 ((f103_l0  (2 + List.length a0) a0).bind fun o2 =>
 some o2)

theorem c103 {a0 : List Int} {r : (List Int)} (h : F103 a0 = some r) : CallPure Pg 103 [(.d t83 a0)] (.d t83 r) := by
 refine qC c_103 21 [.tmp 2] [83] Go.Proofs.Tryz.func103 ?_
 show Run Pg 21 c_103 ⟨[(0, .d t83 a0)], []⟩ (fin103 r)
 unfold F103 at h
 refine qN [] 100 ⟨[(0, .d t83 a0)], []⟩ aN ?_
 refine Run.sq ?_
 refine Run.bl 0 ?_
 obtain ⟨o2, h_o2, h⟩ := bnd_elim h
 refine Run.mono (f103_l0_ok  _ a0 h_o2) ?_
 rintro _ _ ⟨rfl, rfl⟩
 show Run Pg 21 _ _ _
 refine qN [] 400 ⟨[(2, .d t83 o2)], []⟩ aN ?_
 refine Run.rt ?_
 obtain rfl := sI h
 exact qR [(.d t83 o2)]

/-! ## f82 -/

noncomputable def c_82 : Code := body0 Go.Proofs.Tryz.f82

def fin82 (r : IntL) : Ex → St → Prop := endK X0 [.cell 4 85] [85] (.d t84 r)

def F82 (a0 : Bool) (a1 : List Int) : Option (IntL) :=
 (F103 a1).bind fun y1 =>
 (bif a0 then
 some ((decide ((0 : Int) < (ofN (List.length y1)))), y1)
 else
 some (false, y1))

theorem c82 {a0 : Bool} {a1 : List Int} {r : IntL} (h : F82 a0 a1 = some r) : CallPure Pg 82 [(.d t4 a0), (.d t83 a1)] (.d t84 r) := by
 refine qC c_82 15 [.cell 4 85] [85] Go.Proofs.Tryz.func82 ?_
 show Run Pg 15 c_82 ⟨[(0, .d t4 a0), (1, .d t83 a1)], []⟩ (fin82 r)
 unfold F82 at h
 refine qN [] 100 ⟨[(0, .d t4 a0), (1, .d t83 a1), (4, .ptr 100 0)], [(100, bx t84 (false, ([] : List Int)))]⟩ aN ?_
 obtain ⟨y1, h_y1, h⟩ := bnd_elim h
 refine qN [(1, .call (.d t83 y1))] 200 ⟨[(0, .d t4 a0), (1, .d t83 y1), (4, .ptr 100 0)], [(100, bx t84 (false, ([] : List Int)))]⟩ (aC (c103 h_y1) aN) ?_
 rcases bif_elim h with ⟨hb0, h⟩ | ⟨hb0, h⟩
 ·refine qN [(1, .b true)] 300 ⟨[(4, .ptr 100 0)], [(100, bx t84 ((decide ((0 : Int) < (ofN (List.length y1)))), y1))]⟩ (aC hb0 aN) ?_
  refine Run.rt ?_
  obtain rfl := sI h
  exact qR [(.d t84 ((decide ((0 : Int) < (ofN (List.length y1)))), y1))]
 ·refine qN [(1, .b false)] 300 ⟨[(4, .ptr 100 0)], [(100, bx t84 (false, y1))]⟩ (aC hb0 aN) ?_
  refine Run.rt ?_
  obtain rfl := sI h
  exact qR [(.d t84 (false, y1))]

/-! ## f70 -/

noncomputable def c_70 : Code := body0 Go.Proofs.Tryz.f70

def fin70 (r : IntL) : Ex → St → Prop := endK X0 [.cell 2 85] [85] (.d t84 r)

def F70 (a0 : Int) : Option (IntL) :=
 (bif (decide (a0 < (0 : Int))) then
 (F87 (wrapI .u64 (0 - (wrapI .u64 a0)))).bind fun y1 =>
 (F82 true y1).bind fun y2 =>
 some y2
 else
 (F87 (wrapI .u64 a0)).bind fun y3 =>
 (F82 false y3).bind fun y4 =>
 some y4)

theorem c70 {a0 : Int} {r : IntL} (h : F70 a0 = some r) : CallPure Pg 70 [(.d t2 a0)] (.d t84 r) := by
 refine qC c_70 14 [.cell 2 85] [85] Go.Proofs.Tryz.func70 ?_
 show Run Pg 14 c_70 ⟨[(0, .d t2 a0)], []⟩ (fin70 r)
 unfold F70 at h
 refine qN [] 100 ⟨[(0, .d t2 a0), (2, .ptr 100 0)], [(100, bx t84 (false, ([] : List Int)))]⟩ aN ?_
 refine Run.sq ?_
 refine qN [] 200 ⟨[(0, .d t2 a0), (2, .ptr 100 0), (4, .d t4 (decide (a0 < (0 : Int))))], [(100, bx t84 (false, ([] : List Int)))]⟩ aN ?_
 refine Run.cd (decide (a0 < (0 : Int))) (fun hb => ?_) (fun hb => ?_)
 ·replace h := bif_t h hb
  obtain ⟨y1, h_y1, h⟩ := bnd_elim h
  obtain ⟨y2, h_y2, h⟩ := bnd_elim h
  refine qN [(3, .call (.d t83 y1)), (4, .call (.d t84 y2))] 300 ⟨[(2, .ptr 100 0)], [(100, bx t84 y2)]⟩ (aC (c87 h_y1) (aC (c82 h_y2) aN)) ?_
  refine Run.rt ?_
  obtain rfl := sI h
  exact qR [(.d t84 y2)]
 ·replace h := bif_f h hb
  refine Run.sk ?_
  show Run Pg 14 _ _ _
  obtain ⟨y3, h_y3, h⟩ := bnd_elim h
  obtain ⟨y4, h_y4, h⟩ := bnd_elim h
  refine qN [(2, .call (.d t83 y3)), (3, .call (.d t84 y4))] 400 ⟨[(2, .ptr 100 0)], [(100, bx t84 y4)]⟩ (aC (c87 h_y3) (aC (c82 h_y4) aN)) ?_
  refine Run.rt ?_
  obtain rfl := sI h
  exact qR [(.d t84 y4)]

/-! ## f71 -/

noncomputable def c_71 : Code := body0 Go.Proofs.Tryz.f71

def fin71 (r : IntL) : Ex → St → Prop := endK X0 [.cell 0 85] [85] (.d t84 r)

def F71  : Option (IntL) :=
 (F70 (1 : Int)).bind fun y1 =>
 some y1

theorem c71  {r : IntL} (h : F71  = some r) : CallPure Pg 71 [] (.d t84 r) := by
 refine qC c_71 2 [.cell 0 85] [85] Go.Proofs.Tryz.func71 ?_
 show Run Pg 2 c_71 ⟨[], []⟩ (fin71 r)
 unfold F71 at h
 refine qN [] 100 ⟨[(0, .ptr 100 0)], [(100, bx t84 (false, ([] : List Int)))]⟩ aN ?_
 obtain ⟨y1, h_y1, h⟩ := bnd_elim h
 refine qN [(0, .call (.d t84 y1))] 200 ⟨[(0, .ptr 100 0)], [(100, bx t84 y1)]⟩ (aC (c70 h_y1) aN) ?_
 refine Run.rt ?_
 obtain rfl := sI h
 exact qR [(.d t84 y1)]

/-! ## f50 -/

noncomputable def c_50 : Code := body0 Go.Proofs.Tryz.f50

def fin50 (r : RatL) : Ex → St → Prop := endK X0 [.cell 2 87] [87] (.d t86 r)

def F50 (a0 : Int) : Option RatL :=
 (F70 a0).bind fun y1 =>
 (F71 ).bind fun y2 =>
 some (y1, y2)

theorem c50 {a0 : Int} {r : RatL} (h : F50 a0 = some r) : CallPure Pg 50 [(.d t2 a0)] (.d t86 r) := by
 refine qC c_50 7 [.cell 2 87] [87] Go.Proofs.Tryz.func50 ?_
 show Run Pg 7 c_50 ⟨[(0, .d t2 a0)], []⟩ (fin50 r)
 unfold F50 at h
 refine qN [] 100 ⟨[(0, .d t2 a0), (2, .ptr 100 0)], [(100, bx t86 ((false, ([] : List Int)), (false, ([] : List Int))))]⟩ aN ?_
 obtain ⟨y1, h_y1, h⟩ := bnd_elim h
 obtain ⟨y2, h_y2, h⟩ := bnd_elim h
 refine qN [(1, .call (.d t84 y1)), (2, .call (.d t84 y2))] 200 ⟨[(2, .ptr 100 0)], [(100, bx t86 (y1, y2))]⟩ (aC (c70 h_y1) (aC (c71 h_y2) aN)) ?_
 refine Run.rt ?_
 obtain rfl := sI h
 exact qR [(.d t86 (y1, y2))]

/-! ## f67 -/

noncomputable def c_67 : Code := body0 Go.Proofs.Tryz.f67

def fin67 (r : (RatL × RatL)) : Ex → St → Prop := endK X0 [.cell 4 102] [102] (.d t101 r)

def F67 (a0 : Int) (a1 : Int) : Option ((RatL × RatL)) :=
 (F50 a0).bind fun y1 =>
 (F50 a1).bind fun y2 =>
 some (y1, y2)

theorem c67 {a0 : Int} {a1 : Int} {r : (RatL × RatL)} (h : F67 a0 a1 = some r) : CallPure Pg 67 [(.d t2 a0), (.d t2 a1)] (.d t101 r) := by
 refine qC c_67 10 [.cell 4 102] [102] Go.Proofs.Tryz.func67 ?_
 show Run Pg 10 c_67 ⟨[(0, .d t2 a0), (1, .d t2 a1)], []⟩ (fin67 r)
 unfold F67 at h
 refine qN [] 100 ⟨[(0, .d t2 a0), (1, .d t2 a1), (4, .ptr 100 0)], [(100, bx t101 (((false, ([] : List Int)), (false, ([] : List Int))), ((false, ([] : List Int)), (false, ([] : List Int)))))]⟩ aN ?_
 obtain ⟨y1, h_y1, h⟩ := bnd_elim h
 obtain ⟨y2, h_y2, h⟩ := bnd_elim h
 refine qN [(1, .call (.d t86 y1)), (3, .call (.d t86 y2))] 200 ⟨[(4, .ptr 100 0)], [(100, bx t101 (y1, y2))]⟩ (aC (c50 h_y1) (aC (c50 h_y2) aN)) ?_
 refine Run.rt ?_
 obtain rfl := sI h
 exact qR [(.d t101 (y1, y2))]

/-! ## f111 -/

noncomputable def c_111 : Code := body0 Go.Proofs.Tryz.f111

def fin111 (r : IntL) : Ex → St → Prop := endK X0 [.cell 2 85] [85] (.d t84 r)

def F111 (a0 : IntL) : Option (IntL) :=
 (F82 (!a0.1) a0.2).bind fun y1 =>
 some y1

theorem c111 {a0 : IntL} {r : IntL} (h : F111 a0 = some r) : CallPure Pg 111 [(.d t84 a0)] (.d t84 r) := by
 refine qC c_111 9 [.cell 2 85] [85] Go.Proofs.Tryz.func111 ?_
 show Run Pg 9 c_111 ⟨[(0, .d t84 a0)], []⟩ (fin111 r)
 unfold F111 at h
 refine qN [] 100 ⟨[(1, .ptr 100 0), (2, .ptr 101 0)], [(100, bx t84 a0), (101, bx t84 (false, ([] : List Int)))]⟩ aN ?_
 obtain ⟨y1, h_y1, h⟩ := bnd_elim h
 refine qN [(5, .call (.d t84 y1))] 200 ⟨[(2, .ptr 101 0)], [(101, bx t84 y1)]⟩ (aC (c82 h_y1) aN) ?_
 refine Run.rt ?_
 obtain rfl := sI h
 exact qR [(.d t84 y1)]

/-! ## f144 -/

noncomputable def c_144 : Code := body0 Go.Proofs.Tryz.f144

def fin144 (r : RatL) : Ex → St → Prop := endK X0 [.cell 2 87] [87] (.d t86 r)

def F144 (a0 : RatL) : Option RatL :=
 (F111 a0.1).bind fun y1 =>
 some (y1, a0.2)

theorem c144 {a0 : RatL} {r : RatL} (h : F144 a0 = some r) : CallPure Pg 144 [(.d t86 a0)] (.d t86 r) := by
 refine qC c_144 9 [.cell 2 87] [87] Go.Proofs.Tryz.func144 ?_
 show Run Pg 9 c_144 ⟨[(0, .d t86 a0)], []⟩ (fin144 r)
 unfold F144 at h
 refine qN [] 100 ⟨[(1, .ptr 100 0), (2, .ptr 101 0)], [(100, bx t86 a0), (101, bx t86 ((false, ([] : List Int)), (false, ([] : List Int))))]⟩ aN ?_
 obtain ⟨y1, h_y1, h⟩ := bnd_elim h
 refine qN [(2, .call (.d t84 y1))] 200 ⟨[(2, .ptr 101 0)], [(101, bx t86 (y1, a0.2))]⟩ (aC (c111 h_y1) aN) ?_
 refine Run.rt ?_
 obtain rfl := sI h
 exact qR [(.d t86 (y1, a0.2))]

/-! ## f83 -/

noncomputable def c_83 : Code := body0 Go.Proofs.Tryz.f83

def fin83 (r : (List Int)) : Ex → St → Prop := endK X0 [.tmp 4] [83] (.d t83 r)

def f83_l1_post (x12 : List Int) (x13 : List Int) (x14 : Int) : (Int × (List Int)) → Ex → St → Prop
 | o, x, s => x = .out 2 ∧ s = ⟨[(0, .d t83 x12), (1, .d t83 x13), (5, .vec 205 t127), (6, .d t2 x14), (7, .d t12 o.1)], [(205, .vec 127 t127 o.2)]⟩

def f83_l1_b (x12 : List Int) (x13 : List Int) (x14 : Int) (again : Int × Int × (List Int) → Option (Int × (List Int))) : Int × Int × (List Int) → Option (Int × (List Int))
 | (x15, x16, x17) =>
 (bif (decide (x16 < (ofN (List.length x13)))) then
 gd (0 ≤ (wrapI .i64 (x14 + x16))) <|
 gd ((wrapI .i64 (x14 + x16)) < ((List.length x17 : Nat) : Int)) <|
 gd ((toN (wrapI .i64 (x14 + x16))) < List.length x17) <|
 gd (0 ≤ x14) <|
 gd (x14 < ((List.length x12 : Nat) : Int)) <|
 gd (0 ≤ x16) <|
 gd (x16 < ((List.length x13 : Nat) : Int)) <|
 gd (0 ≤ (wrapI .i64 (x14 + x16))) <|
 gd ((wrapI .i64 (x14 + x16)) < ((List.length x17 : Nat) : Int)) <|
 gd ((toN (wrapI .i64 (x14 + x16))) < List.length x17) <|
 again ((wrapI .u64 (Int.tdiv (wrapI .u64 ((wrapI .u64 (x15 + (wrapI .u64 (List.getD x17 (toN (wrapI .i64 (x14 + x16))) (0 : Int))))) + (wrapI .u64 ((wrapI .u64 (List.getD x12 (toN x14) (0 : Int))) * (wrapI .u64 (List.getD x13 (toN x16) (0 : Int))))))) (1000000000 : Int))), (wrapI .i64 (x16 + (1 : Int))), (List.set x17 (toN (wrapI .i64 (x14 + x16))) (wrapI .u32 (Int.tmod (wrapI .u64 ((wrapI .u64 (x15 + (wrapI .u64 (List.getD x17 (toN (wrapI .i64 (x14 + x16))) (0 : Int))))) + (wrapI .u64 ((wrapI .u64 (List.getD x12 (toN x14) (0 : Int))) * (wrapI .u64 (List.getD x13 (toN x16) (0 : Int))))))) (1000000000 : Int)))))
 else
 some (x15, x17))

def f83_l1 (x12 : List Int) (x13 : List Int) (x14 : Int) : Nat → Int × Int × (List Int) → Option (Int × (List Int)) := loopF (f83_l1_b x12 x13 x14)

theorem f83_l1_ok (x12 : List Int) (x13 : List Int) (x14 : Int) (k : Nat) (x15 : Int) (x16 : Int) (x17 : List Int) {out : (Int × (List Int))} (h : f83_l1 x12 x13 x14 k (x15, x16, x17) = some out) : Run Pg 68 (bk1 (sq2 (sq1 (sq2 (bk1 (sq1 (sq2 (lp1 (bk1 (sq2 (sq1 (sq2 (sq2 c_83))))))))))))) ⟨[(0, .d t83 x12), (1, .d t83 x13), (5, .vec 205 t127), (6, .d t2 x14), (7, .d t12 x15), (8, .d t2 x16)], [(205, .vec 127 t127 x17)]⟩ (f83_l1_post x12 x13 x14 out) := by
 refine Run.loopN (by kernel_rfl) (fun m s => ∃ x15 x16 x17, s = ⟨[(0, .d t83 x12), (1, .d t83 x13), (5, .vec 205 t127), (6, .d t2 x14), (7, .d t12 x15), (8, .d t2 x16)], [(205, .vec 127 t127 x17)]⟩ ∧ f83_l1 x12 x13 x14 m (x15, x16, x17) = some out) ?_ k ⟨x15, x16, x17,  rfl, h⟩
 rintro m s ⟨x15, x16, x17,  rfl, h⟩
 cases m with
 | zero => cases h
 | succ m =>
 replace h : f83_l1_b x12 x13 x14 (f83_l1 x12 x13 x14 m) (x15, x16, x17) = some out := h
 unfold f83_l1_b at h
 refine Run.sq ?_
 refine qN [] 800 ⟨[(0, .d t83 x12), (1, .d t83 x13), (5, .vec 205 t127), (6, .d t2 x14), (7, .d t12 x15), (8, .d t2 x16), (24, .d t4 (decide (x16 < (ofN (List.length x13)))))], [(205, .vec 127 t127 x17)]⟩ aN ?_
 refine Run.cd (decide (x16 < (ofN (List.length x13)))) (fun hb => ?_) (fun hb => ?_)
 ·replace h := bif_t h hb
  refine Run.sk ?_
  show Run Pg 68 _ _ _
  refine Run.sq ?_
  refine Run.bl 3 ?_
  obtain ⟨g_0, h⟩ := gd_elim h
  obtain ⟨g_1, h⟩ := gd_elim h
  obtain ⟨g_2, h⟩ := gd_elim h
  obtain ⟨g_3, h⟩ := gd_elim h
  obtain ⟨g_4, h⟩ := gd_elim h
  obtain ⟨g_5, h⟩ := gd_elim h
  obtain ⟨g_6, h⟩ := gd_elim h
  refine qN [] 1000 ⟨[(0, .d t83 x12), (1, .d t83 x13), (5, .vec 205 t127), (6, .d t2 x14), (7, .d t12 (wrapI .u64 ((wrapI .u64 (x15 + (wrapI .u64 (List.getD x17 (toN (wrapI .i64 (x14 + x16))) (0 : Int))))) + (wrapI .u64 ((wrapI .u64 (List.getD x12 (toN x14) (0 : Int))) * (wrapI .u64 (List.getD x13 (toN x16) (0 : Int)))))))), (8, .d t2 x16)], [(205, .vec 127 t127 x17)]⟩ (aC g_0 (aC g_1 (aC g_2 (aC g_3 (aC g_4 (aC g_5 (aC g_6 aN))))))) ?_
  obtain ⟨g_1, h⟩ := gd_elim h
  obtain ⟨g_2, h⟩ := gd_elim h
  obtain ⟨g_3, h⟩ := gd_elim h
  refine qN [] 1100 ⟨[(0, .d t83 x12), (1, .d t83 x13), (5, .vec 205 t127), (6, .d t2 x14), (7, .d t12 (wrapI .u64 ((wrapI .u64 (x15 + (wrapI .u64 (List.getD x17 (toN (wrapI .i64 (x14 + x16))) (0 : Int))))) + (wrapI .u64 ((wrapI .u64 (List.getD x12 (toN x14) (0 : Int))) * (wrapI .u64 (List.getD x13 (toN x16) (0 : Int)))))))), (8, .d t2 x16)], [(205, .vec 127 t127 (List.set x17 (toN (wrapI .i64 (x14 + x16))) (wrapI .u32 (Int.tmod (wrapI .u64 ((wrapI .u64 (x15 + (wrapI .u64 (List.getD x17 (toN (wrapI .i64 (x14 + x16))) (0 : Int))))) + (wrapI .u64 ((wrapI .u64 (List.getD x12 (toN x14) (0 : Int))) * (wrapI .u64 (List.getD x13 (toN x16) (0 : Int))))))) (1000000000 : Int)))))]⟩ (aC (show ((1000000000 : Int) ≠ 0) from (by decide)) (aC g_1 (aC g_2 (aC g_3 aN)))) ?_
  refine qE [] 1200 ⟨[(0, .d t83 x12), (1, .d t83 x13), (5, .vec 205 t127), (6, .d t2 x14), (7, .d t12 (wrapI .u64 (Int.tdiv (wrapI .u64 ((wrapI .u64 (x15 + (wrapI .u64 (List.getD x17 (toN (wrapI .i64 (x14 + x16))) (0 : Int))))) + (wrapI .u64 ((wrapI .u64 (List.getD x12 (toN x14) (0 : Int))) * (wrapI .u64 (List.getD x13 (toN x16) (0 : Int))))))) (1000000000 : Int)))), (8, .d t2 x16)], [(205, .vec 127 t127 (List.set x17 (toN (wrapI .i64 (x14 + x16))) (wrapI .u32 (Int.tmod (wrapI .u64 ((wrapI .u64 (x15 + (wrapI .u64 (List.getD x17 (toN (wrapI .i64 (x14 + x16))) (0 : Int))))) + (wrapI .u64 ((wrapI .u64 (List.getD x12 (toN x14) (0 : Int))) * (wrapI .u64 (List.getD x13 (toN x16) (0 : Int))))))) (1000000000 : Int)))))]⟩ (aC (show ((1000000000 : Int) ≠ 0) from (by decide)) aN) ?_
  show Run Pg 68 _ _ _
  refine qE [] 900 ⟨[(0, .d t83 x12), (1, .d t83 x13), (5, .vec 205 t127), (6, .d t2 x14), (7, .d t12 (wrapI .u64 (Int.tdiv (wrapI .u64 ((wrapI .u64 (x15 + (wrapI .u64 (List.getD x17 (toN (wrapI .i64 (x14 + x16))) (0 : Int))))) + (wrapI .u64 ((wrapI .u64 (List.getD x12 (toN x14) (0 : Int))) * (wrapI .u64 (List.getD x13 (toN x16) (0 : Int))))))) (1000000000 : Int)))), (8, .d t2 (wrapI .i64 (x16 + (1 : Int))))], [(205, .vec 127 t127 (List.set x17 (toN (wrapI .i64 (x14 + x16))) (wrapI .u32 (Int.tmod (wrapI .u64 ((wrapI .u64 (x15 + (wrapI .u64 (List.getD x17 (toN (wrapI .i64 (x14 + x16))) (0 : Int))))) + (wrapI .u64 ((wrapI .u64 (List.getD x12 (toN x14) (0 : Int))) * (wrapI .u64 (List.getD x13 (toN x16) (0 : Int))))))) (1000000000 : Int)))))]⟩ aN ?_
  exact ⟨m, Nat.lt_succ_self m, _, _, _, rfl, h⟩
 ·replace h := bif_f h hb
  refine qK ⟨[(0, .d t83 x12), (1, .d t83 x13), (5, .vec 205 t127), (6, .d t2 x14), (7, .d t12 x15)], [(205, .vec 127 t127 x17)]⟩ ?_
  refine Run.ex 2 ?_
  obtain rfl := sI h
  exact ⟨rfl, by kernel_rfl⟩

def f83_l0_post (x1 : List Int) (x2 : List Int) : ((List Int)) → Ex → St → Prop
 | o, x, s => x = .out 0 ∧ s = ⟨[(5, .vec 205 t127)], [(205, .vec 127 t127 o)]⟩

def f83_l0_b (x1 : List Int) (x2 : List Int) (again : Int × (List Int) → Option ((List Int))) : Int × (List Int) → Option ((List Int))
 | (x3, x4) =>
 (bif (decide (x3 < (ofN (List.length x1)))) then
 ((f83_l1 x1 x2 x3 (2 + List.length x1 + List.length x2 + List.length x4) ((0 : Int), (0 : Int), x4)).bind fun o18 =>
 gd (0 ≤ (wrapI .i64 (x3 + (ofN (List.length x2))))) <|
 gd ((wrapI .i64 (x3 + (ofN (List.length x2)))) < ((List.length o18.2 : Nat) : Int)) <|
 gd ((toN (wrapI .i64 (x3 + (ofN (List.length x2))))) < List.length o18.2) <|
 again ((wrapI .i64 (x3 + (1 : Int))), (List.set o18.2 (toN (wrapI .i64 (x3 + (ofN (List.length x2))))) (wrapI .u32 o18.1))))
 else
 some x4)

def f83_l0 (x1 : List Int) (x2 : List Int) : Nat → Int × (List Int) → Option ((List Int)) := loopF (f83_l0_b x1 x2)

theorem f83_l0_ok (x1 : List Int) (x2 : List Int) (k : Nat) (x3 : Int) (x4 : List Int) {out : ((List Int))} (h : f83_l0 x1 x2 k (x3, x4) = some out) : Run Pg 68 (bk1 (sq2 (sq1 (sq2 (sq2 c_83))))) ⟨[(0, .d t83 x1), (1, .d t83 x2), (5, .vec 205 t127), (6, .d t2 x3)], [(205, .vec 127 t127 x4)]⟩ (f83_l0_post x1 x2 out) := by
 refine Run.loopN (by kernel_rfl) (fun m s => ∃ x3 x4, s = ⟨[(0, .d t83 x1), (1, .d t83 x2), (5, .vec 205 t127), (6, .d t2 x3)], [(205, .vec 127 t127 x4)]⟩ ∧ f83_l0 x1 x2 m (x3, x4) = some out) ?_ k ⟨x3, x4,  rfl, h⟩
 rintro m s ⟨x3, x4,  rfl, h⟩
 cases m with
 | zero => cases h
 | succ m =>
 replace h : f83_l0_b x1 x2 (f83_l0 x1 x2 m) (x3, x4) = some out := h
 unfold f83_l0_b at h
 refine Run.sq ?_
 refine qN [] 400 ⟨[(0, .d t83 x1), (1, .d t83 x2), (5, .vec 205 t127), (6, .d t2 x3), (18, .d t4 (decide (x3 < (ofN (List.length x1)))))], [(205, .vec 127 t127 x4)]⟩ aN ?_
 refine Run.cd (decide (x3 < (ofN (List.length x1)))) (fun hb => ?_) (fun hb => ?_)
 ·replace h := bif_t h hb
  refine Run.sk ?_
  show Run Pg 68 _ _ _
  refine Run.sq ?_
  refine Run.bl 1 ?_
  refine qN [] 600 ⟨[(0, .d t83 x1), (1, .d t83 x2), (5, .vec 205 t127), (6, .d t2 x3), (7, .d t12 (0 : Int))], [(205, .vec 127 t127 x4)]⟩ aN ?_
  refine Run.sq ?_
  refine qN [] 700 ⟨[(0, .d t83 x1), (1, .d t83 x2), (5, .vec 205 t127), (6, .d t2 x3), (7, .d t12 (0 : Int)), (8, .d t2 (0 : Int))], [(205, .vec 127 t127 x4)]⟩ aN ?_
  refine Run.bl 2 ?_
  obtain ⟨o18, h_o18, h⟩ := bnd_elim h
  refine Run.mono (f83_l1_ok x1 x2 x3 _ (0 : Int) (0 : Int) x4 h_o18) ?_
  rintro _ _ ⟨rfl, rfl⟩
  show Run Pg 68 _ _ _
  obtain ⟨g_0, h⟩ := gd_elim h
  obtain ⟨g_1, h⟩ := gd_elim h
  obtain ⟨g_2, h⟩ := gd_elim h
  refine qE [] 1300 ⟨[(0, .d t83 x1), (1, .d t83 x2), (5, .vec 205 t127), (6, .d t2 x3)], [(205, .vec 127 t127 (List.set o18.2 (toN (wrapI .i64 (x3 + (ofN (List.length x2))))) (wrapI .u32 o18.1)))]⟩ (aC g_0 (aC g_1 (aC g_2 aN))) ?_
  show Run Pg 68 _ _ _
  refine qE [] 500 ⟨[(0, .d t83 x1), (1, .d t83 x2), (5, .vec 205 t127), (6, .d t2 (wrapI .i64 (x3 + (1 : Int))))], [(205, .vec 127 t127 (List.set o18.2 (toN (wrapI .i64 (x3 + (ofN (List.length x2))))) (wrapI .u32 o18.1)))]⟩ aN ?_
  exact ⟨m, Nat.lt_succ_self m, _, _, rfl, h⟩
 ·replace h := bif_f h hb
  refine qK ⟨[(5, .vec 205 t127)], [(205, .vec 127 t127 x4)]⟩ ?_
  refine Run.ex 0 ?_
  obtain rfl := sI h
  exact ⟨rfl, by kernel_rfl⟩

def F83 (a0 : List Int) (a1 : List Int) : Option ((List Int)) :=
 gd (0 ≤ (wrapI .i64 ((ofN (List.length a0)) + (ofN (List.length a1))))) <|
 gd ((wrapI .i64 ((ofN (List.length a0)) + (ofN (List.length a1)))) ≤ (wrapI .i64 ((ofN (List.length a0)) + (ofN (List.length a1))))) <|
 gd ((wrapI .i64 ((ofN (List.length a0)) + (ofN (List.length a1)))) ≤ 1073741824) <|
 ((f83_l0 a0 a1 (2 + List.length a0 + List.length a1 + List.length (List.replicate (toN (wrapI .i64 ((ofN (List.length a0)) + (ofN (List.length a1))))) (0 : Int))) ((0 : Int), (List.replicate (toN (wrapI .i64 ((ofN (List.length a0)) + (ofN (List.length a1))))) (0 : Int)))).bind fun o19 =>
 (F103 o19).bind fun y20 =>
 some y20)

theorem c83 {a0 : List Int} {a1 : List Int} {r : (List Int)} (h : F83 a0 a1 = some r) : CallPure Pg 83 [(.d t83 a0), (.d t83 a1)] (.d t83 r) := by
 refine qC c_83 68 [.tmp 4] [83] Go.Proofs.Tryz.func83 ?_
 show Run Pg 68 c_83 ⟨[(0, .d t83 a0), (1, .d t83 a1)], []⟩ (fin83 r)
 unfold F83 at h
 refine qN [] 100 ⟨[(0, .d t83 a0), (1, .d t83 a1)], []⟩ aN ?_
 obtain ⟨g_0, h⟩ := gd_elim h
 obtain ⟨g_1, h⟩ := gd_elim h
 obtain ⟨g_2, h⟩ := gd_elim h
 refine qN [] 200 ⟨[(0, .d t83 a0), (1, .d t83 a1), (5, .vec 205 t127)], [(205, .vec 127 t127 (List.replicate (toN (wrapI .i64 ((ofN (List.length a0)) + (ofN (List.length a1))))) (0 : Int)))]⟩ (aC g_0 (aC g_1 (aC g_2 aN))) ?_
 refine Run.sq ?_
 refine qN [] 300 ⟨[(0, .d t83 a0), (1, .d t83 a1), (5, .vec 205 t127), (6, .d t2 (0 : Int))], [(205, .vec 127 t127 (List.replicate (toN (wrapI .i64 ((ofN (List.length a0)) + (ofN (List.length a1))))) (0 : Int)))]⟩ aN ?_
 refine Run.bl 0 ?_
 obtain ⟨o19, h_o19, h⟩ := bnd_elim h
 refine Run.mono (f83_l0_ok a0 a1 _ (0 : Int) (List.replicate (toN (wrapI .i64 ((ofN (List.length a0)) + (ofN (List.length a1))))) (0 : Int)) h_o19) ?_
 rintro _ _ ⟨rfl, rfl⟩
 show Run Pg 68 _ _ _
 refine Run.freeze (s' := ⟨[(5, .d t83 o19)], []⟩) 205 (by kernel_rfl) ?_
 obtain ⟨y20, h_y20, h⟩ := bnd_elim h
 refine qN [(1, .call (.d t83 y20))] 1400 ⟨[(4, .d t83 y20)], []⟩ (aC (c103 h_y20) aN) ?_
 refine Run.rt ?_
 obtain rfl := sI h
 exact qR [(.d t83 y20)]

/-! ## f65 -/

noncomputable def c_65 : Code := body0 Go.Proofs.Tryz.f65

def fin65 (r : IntL) : Ex → St → Prop := endK X0 [.cell 4 85] [85] (.d t84 r)

def F65 (a0 : IntL) (a1 : IntL) : Option (IntL) :=
 (F83 a0.2 a1.2).bind fun y1 =>
 (F82 (!(a0.1 == a1.1)) y1).bind fun y2 =>
 some y2

theorem c65 {a0 : IntL} {a1 : IntL} {r : IntL} (h : F65 a0 a1 = some r) : CallPure Pg 65 [(.d t84 a0), (.d t84 a1)] (.d t84 r) := by
 refine qC c_65 16 [.cell 4 85] [85] Go.Proofs.Tryz.func65 ?_
 show Run Pg 16 c_65 ⟨[(0, .d t84 a0), (1, .d t84 a1)], []⟩ (fin65 r)
 unfold F65 at h
 refine qN [] 100 ⟨[(2, .ptr 100 0), (3, .ptr 101 0), (4, .ptr 102 0)], [(100, bx t84 a0), (101, bx t84 a1), (102, bx t84 (false, ([] : List Int)))]⟩ aN ?_
 obtain ⟨y1, h_y1, h⟩ := bnd_elim h
 obtain ⟨y2, h_y2, h⟩ := bnd_elim h
 refine qN [(9, .call (.d t83 y1)), (10, .call (.d t84 y2))] 200 ⟨[(4, .ptr 102 0)], [(102, bx t84 y2)]⟩ (aC (c83 h_y1) (aC (c82 h_y2) aN)) ?_
 refine Run.rt ?_
 obtain rfl := sI h
 exact qR [(.d t84 y2)]

/-! ## f140 -/

noncomputable def c_140 : Code := body0 Go.Proofs.Tryz.f140

def fin140 (r : (List Int)) : Ex → St → Prop := endK X0 [.tmp 4] [83] (.d t83 r)

def f140_c0_post (x1 : List Int) (x2 : List Int) (x3 : Bool) : ((List Int) × (List Int)) → Ex → St → Prop
 | o, x, s => x = .nrm ∧ s = ⟨[(0, .d t83 o.1), (1, .d t83 o.2)], []⟩

def f140_c0 (x1 : List Int) (x2 : List Int) (x3 : Bool) : Option ((List Int) × (List Int)) :=
 (bif x3 then
 some (x2, x1)
 else
 some (x1, x2))

theorem f140_c0_ok (x1 : List Int) (x2 : List Int) (x3 : Bool) {out : ((List Int) × (List Int))} (h : f140_c0 x1 x2 x3 = some out) : Run Pg 55 (sq2 (sq1 (sq2 c_140))) ⟨[(0, .d t83 x1), (1, .d t83 x2), (12, .d t4 x3)], []⟩ (f140_c0_post x1 x2 x3 out) := by
 unfold f140_c0 at h
 refine Run.cd x3 (fun hb => ?_) (fun hb => ?_)
 ·replace h := bif_t h hb
  refine qE [] 300 ⟨[(0, .d t83 x2), (1, .d t83 x1)], []⟩ aN ?_
  obtain rfl := sI h
  exact ⟨rfl, by kernel_rfl⟩
 ·replace h := bif_f h hb
  refine qK ⟨[(0, .d t83 x1), (1, .d t83 x2)], []⟩ ?_
  refine Run.sk ?_
  obtain rfl := sI h
  exact ⟨rfl, by kernel_rfl⟩

def f140_c2_post (x17 : List Int) (x18 : List Int) (x19 : Int) (x20 : Int) (x21 : Bool) (x22 : List Int) : (Int) → Ex → St → Prop
 | o, x, s => x = .nrm ∧ s = ⟨[(0, .d t83 x17), (1, .d t83 x18), (5, .vec 403 t127), (6, .d t127 o), (7, .d t2 x20)], [(403, .vec 127 t127 x22)]⟩

def f140_c2 (x18 : List Int) (x19 : Int) (x20 : Int) (x21 : Bool) : Option (Int) :=
 (bif x21 then
 gd (0 ≤ x20) <|
 gd (x20 < ((List.length x18 : Nat) : Int)) <|
 some (wrapI .u32 (x19 + (List.getD x18 (toN x20) (0 : Int))))
 else
 some x19)

theorem f140_c2_ok (x17 : List Int) (x18 : List Int) (x19 : Int) (x20 : Int) (x21 : Bool) (x22 : List Int) {out : (Int)} (h : f140_c2 x18 x19 x20 x21 = some out) : Run Pg 55 (sq2 (sq1 (sq2 (bk1 (sq1 (sq2 (lp1 (bk1 (sq2 (sq1 (sq2 (sq2 (sq2 (sq2 c_140)))))))))))))) ⟨[(0, .d t83 x17), (1, .d t83 x18), (5, .vec 403 t127), (6, .d t127 x19), (7, .d t2 x20), (34, .d t4 x21)], [(403, .vec 127 t127 x22)]⟩ (f140_c2_post x17 x18 x19 x20 x21 x22 out) := by
 unfold f140_c2 at h
 refine Run.cd x21 (fun hb => ?_) (fun hb => ?_)
 ·replace h := bif_t h hb
  obtain ⟨g_0, h⟩ := gd_elim h
  obtain ⟨g_1, h⟩ := gd_elim h
  refine qE [] 1100 ⟨[(0, .d t83 x17), (1, .d t83 x18), (5, .vec 403 t127), (6, .d t127 (wrapI .u32 (x19 + (List.getD x18 (toN x20) (0 : Int))))), (7, .d t2 x20)], [(403, .vec 127 t127 x22)]⟩ (aC g_0 (aC g_1 aN)) ?_
  obtain rfl := sI h
  exact ⟨rfl, by kernel_rfl⟩
 ·replace h := bif_f h hb
  refine qK ⟨[(0, .d t83 x17), (1, .d t83 x18), (5, .vec 403 t127), (6, .d t127 x19), (7, .d t2 x20)], [(403, .vec 127 t127 x22)]⟩ ?_
  refine Run.sk ?_
  obtain rfl := sI h
  exact ⟨rfl, by kernel_rfl⟩

def f140_l1_post (x5 : List Int) (x6 : List Int) : (Int × (List Int)) → Ex → St → Prop
 | o, x, s => x = .out 0 ∧ s = ⟨[(0, .d t83 x5), (5, .vec 403 t127), (6, .d t127 o.1)], [(403, .vec 127 t127 o.2)]⟩

def f140_l1_b (x5 : List Int) (x6 : List Int) (again : Int × Int × (List Int) → Option (Int × (List Int))) : Int × Int × (List Int) → Option (Int × (List Int))
 | (x7, x8, x9) =>
 (bif (decide (x8 < (ofN (List.length x5)))) then
 gd (0 ≤ x8) <|
 gd (x8 < ((List.length x5 : Nat) : Int)) <|
 ((f140_c2 x6 (wrapI .u32 (x7 + (List.getD x5 (toN x8) (0 : Int)))) x8 (decide (x8 < (ofN (List.length x6))))).bind fun o23 =>
 gd (0 ≤ x8) <|
 gd (x8 < ((List.length x9 : Nat) : Int)) <|
 gd ((toN x8) < List.length x9) <|
 again ((wrapI .u32 (Int.tdiv o23 (1000000000 : Int))), (wrapI .i64 (x8 + (1 : Int))), (List.set x9 (toN x8) (Int.tmod o23 (1000000000 : Int)))))
 else
 some (x7, x9))

def f140_l1 (x5 : List Int) (x6 : List Int) : Nat → Int × Int × (List Int) → Option (Int × (List Int)) := loopF (f140_l1_b x5 x6)

theorem f140_l1_ok (x5 : List Int) (x6 : List Int) (k : Nat) (x7 : Int) (x8 : Int) (x9 : List Int) {out : (Int × (List Int))} (h : f140_l1 x5 x6 k (x7, x8, x9) = some out) : Run Pg 55 (bk1 (sq2 (sq1 (sq2 (sq2 (sq2 (sq2 c_140))))))) ⟨[(0, .d t83 x5), (1, .d t83 x6), (5, .vec 403 t127), (6, .d t127 x7), (7, .d t2 x8)], [(403, .vec 127 t127 x9)]⟩ (f140_l1_post x5 x6 out) := by
 refine Run.loopN (by kernel_rfl) (fun m s => ∃ x7 x8 x9, s = ⟨[(0, .d t83 x5), (1, .d t83 x6), (5, .vec 403 t127), (6, .d t127 x7), (7, .d t2 x8)], [(403, .vec 127 t127 x9)]⟩ ∧ f140_l1 x5 x6 m (x7, x8, x9) = some out) ?_ k ⟨x7, x8, x9,  rfl, h⟩
 rintro m s ⟨x7, x8, x9,  rfl, h⟩
 cases m with
 | zero => cases h
 | succ m =>
 replace h : f140_l1_b x5 x6 (f140_l1 x5 x6 m) (x7, x8, x9) = some out := h
 unfold f140_l1_b at h
 refine Run.sq ?_
 refine qN [] 700 ⟨[(0, .d t83 x5), (1, .d t83 x6), (5, .vec 403 t127), (6, .d t127 x7), (7, .d t2 x8), (22, .d t4 (decide (x8 < (ofN (List.length x5)))))], [(403, .vec 127 t127 x9)]⟩ aN ?_
 refine Run.cd (decide (x8 < (ofN (List.length x5)))) (fun hb => ?_) (fun hb => ?_)
 ·replace h := bif_t h hb
  refine Run.sk ?_
  show Run Pg 55 _ _ _
  refine Run.sq ?_
  refine Run.bl 1 ?_
  obtain ⟨g_0, h⟩ := gd_elim h
  obtain ⟨g_1, h⟩ := gd_elim h
  refine qN [] 900 ⟨[(0, .d t83 x5), (1, .d t83 x6), (5, .vec 403 t127), (6, .d t127 (wrapI .u32 (x7 + (List.getD x5 (toN x8) (0 : Int))))), (7, .d t2 x8)], [(403, .vec 127 t127 x9)]⟩ (aC g_0 (aC g_1 aN)) ?_
  refine Run.sq ?_
  refine qN [] 1000 ⟨[(0, .d t83 x5), (1, .d t83 x6), (5, .vec 403 t127), (6, .d t127 (wrapI .u32 (x7 + (List.getD x5 (toN x8) (0 : Int))))), (7, .d t2 x8), (34, .d t4 (decide (x8 < (ofN (List.length x6)))))], [(403, .vec 127 t127 x9)]⟩ aN ?_
  obtain ⟨o23, h_o23, h⟩ := bnd_elim h
  refine Run.mono (f140_c2_ok x5 x6 (wrapI .u32 (x7 + (List.getD x5 (toN x8) (0 : Int)))) x8 (decide (x8 < (ofN (List.length x6)))) x9 h_o23) ?_
  rintro _ _ ⟨rfl, rfl⟩
  show Run Pg 55 _ _ _
  obtain ⟨g_1, h⟩ := gd_elim h
  obtain ⟨g_2, h⟩ := gd_elim h
  obtain ⟨g_3, h⟩ := gd_elim h
  refine qN [] 1200 ⟨[(0, .d t83 x5), (1, .d t83 x6), (5, .vec 403 t127), (6, .d t127 o23), (7, .d t2 x8)], [(403, .vec 127 t127 (List.set x9 (toN x8) (Int.tmod o23 (1000000000 : Int))))]⟩ (aC (show ((1000000000 : Int) ≠ 0) from (by decide)) (aC g_1 (aC g_2 (aC g_3 aN)))) ?_
  refine qE [] 1300 ⟨[(0, .d t83 x5), (1, .d t83 x6), (5, .vec 403 t127), (6, .d t127 (wrapI .u32 (Int.tdiv o23 (1000000000 : Int)))), (7, .d t2 x8)], [(403, .vec 127 t127 (List.set x9 (toN x8) (Int.tmod o23 (1000000000 : Int))))]⟩ (aC (show ((1000000000 : Int) ≠ 0) from (by decide)) aN) ?_
  show Run Pg 55 _ _ _
  refine qE [] 800 ⟨[(0, .d t83 x5), (1, .d t83 x6), (5, .vec 403 t127), (6, .d t127 (wrapI .u32 (Int.tdiv o23 (1000000000 : Int)))), (7, .d t2 (wrapI .i64 (x8 + (1 : Int))))], [(403, .vec 127 t127 (List.set x9 (toN x8) (Int.tmod o23 (1000000000 : Int))))]⟩ aN ?_
  exact ⟨m, Nat.lt_succ_self m, _, _, _, rfl, h⟩
 ·replace h := bif_f h hb
  refine qK ⟨[(0, .d t83 x5), (5, .vec 403 t127), (6, .d t127 x7)], [(403, .vec 127 t127 x9)]⟩ ?_
  refine Run.ex 0 ?_
  obtain rfl := sI h
  exact ⟨rfl, by kernel_rfl⟩

def F140 (a0 : List Int) (a1 : List Int) : Option ((List Int)) :=
 ((f140_c0 a0 a1 (decide ((ofN (List.length a0)) < (ofN (List.length a1))))).bind fun o4 =>
 gd (0 ≤ (wrapI .i64 ((ofN (List.length o4.1)) + (1 : Int)))) <|
 gd ((wrapI .i64 ((ofN (List.length o4.1)) + (1 : Int))) ≤ (wrapI .i64 ((ofN (List.length o4.1)) + (1 : Int)))) <|
 gd ((wrapI .i64 ((ofN (List.length o4.1)) + (1 : Int))) ≤ 1073741824) <|
 ((f140_l1 o4.1 o4.2 (2 + List.length o4.1 + List.length o4.2 + List.length (List.replicate (toN (wrapI .i64 ((ofN (List.length o4.1)) + (1 : Int)))) (0 : Int))) ((0 : Int), (0 : Int), (List.replicate (toN (wrapI .i64 ((ofN (List.length o4.1)) + (1 : Int)))) (0 : Int)))).bind fun o24 =>
 gd (0 ≤ (ofN (List.length o4.1))) <|
 gd ((ofN (List.length o4.1)) < ((List.length o24.2 : Nat) : Int)) <|
 gd ((toN (ofN (List.length o4.1))) < List.length o24.2) <|
 (F103 (List.set o24.2 (toN (ofN (List.length o4.1))) o24.1)).bind fun y25 =>
 some y25))

theorem c140 {a0 : List Int} {a1 : List Int} {r : (List Int)} (h : F140 a0 a1 = some r) : CallPure Pg 140 [(.d t83 a0), (.d t83 a1)] (.d t83 r) := by
 refine qC c_140 55 [.tmp 4] [83] Go.Proofs.Tryz.func140 ?_
 show Run Pg 55 c_140 ⟨[(0, .d t83 a0), (1, .d t83 a1)], []⟩ (fin140 r)
 unfold F140 at h
 refine qN [] 100 ⟨[(0, .d t83 a0), (1, .d t83 a1)], []⟩ aN ?_
 refine Run.sq ?_
 refine qN [] 200 ⟨[(0, .d t83 a0), (1, .d t83 a1), (12, .d t4 (decide ((ofN (List.length a0)) < (ofN (List.length a1)))))], []⟩ aN ?_
 obtain ⟨o4, h_o4, h⟩ := bnd_elim h
 refine Run.mono (f140_c0_ok a0 a1 (decide ((ofN (List.length a0)) < (ofN (List.length a1)))) h_o4) ?_
 rintro _ _ ⟨rfl, rfl⟩
 show Run Pg 55 _ _ _
 obtain ⟨g_0, h⟩ := gd_elim h
 obtain ⟨g_1, h⟩ := gd_elim h
 obtain ⟨g_2, h⟩ := gd_elim h
 refine qN [] 400 ⟨[(0, .d t83 o4.1), (1, .d t83 o4.2), (5, .vec 403 t127)], [(403, .vec 127 t127 (List.replicate (toN (wrapI .i64 ((ofN (List.length o4.1)) + (1 : Int)))) (0 : Int)))]⟩ (aC g_0 (aC g_1 (aC g_2 aN))) ?_
 refine qN [] 500 ⟨[(0, .d t83 o4.1), (1, .d t83 o4.2), (5, .vec 403 t127), (6, .d t127 (0 : Int))], [(403, .vec 127 t127 (List.replicate (toN (wrapI .i64 ((ofN (List.length o4.1)) + (1 : Int)))) (0 : Int)))]⟩ aN ?_
 refine Run.sq ?_
 refine qN [] 600 ⟨[(0, .d t83 o4.1), (1, .d t83 o4.2), (5, .vec 403 t127), (6, .d t127 (0 : Int)), (7, .d t2 (0 : Int))], [(403, .vec 127 t127 (List.replicate (toN (wrapI .i64 ((ofN (List.length o4.1)) + (1 : Int)))) (0 : Int)))]⟩ aN ?_
 refine Run.bl 0 ?_
 obtain ⟨o24, h_o24, h⟩ := bnd_elim h
 refine Run.mono (f140_l1_ok o4.1 o4.2 _ (0 : Int) (0 : Int) (List.replicate (toN (wrapI .i64 ((ofN (List.length o4.1)) + (1 : Int)))) (0 : Int)) h_o24) ?_
 rintro _ _ ⟨rfl, rfl⟩
 show Run Pg 55 _ _ _
 obtain ⟨g_0, h⟩ := gd_elim h
 obtain ⟨g_1, h⟩ := gd_elim h
 obtain ⟨g_2, h⟩ := gd_elim h
 refine qN [] 1400 ⟨[(5, .vec 403 t127)], [(403, .vec 127 t127 (List.set o24.2 (toN (ofN (List.length o4.1))) o24.1))]⟩ (aC g_0 (aC g_1 (aC g_2 aN))) ?_
 refine Run.freeze (s' := ⟨[(5, .d t83 (List.set o24.2 (toN (ofN (List.length o4.1))) o24.1))], []⟩) 403 (by kernel_rfl) ?_
 obtain ⟨y25, h_y25, h⟩ := bnd_elim h
 refine qN [(1, .call (.d t83 y25))] 1500 ⟨[(4, .d t83 y25)], []⟩ (aC (c103 h_y25) aN) ?_
 refine Run.rt ?_
 obtain rfl := sI h
 exact qR [(.d t83 y25)]

/-! ## f81 -/

noncomputable def c_81 : Code := body0 Go.Proofs.Tryz.f81

def fin81 (r : Int) : Ex → St → Prop := endK X0 [.tmp 4] [3] (.d t2 r)

def f81_l0_post (x1 : List Int) (x2 : List Int) : ((Unit) ⊕ (Int)) → Ex → St → Prop
 | .inl o, x, s => x = .out 0 ∧ s = ⟨[], []⟩
 | .inr o, x, s => x = .ret ∧ fin81  o x s

def f81_l0_b (x1 : List Int) (x2 : List Int) (again : Int → Option ((Unit) ⊕ (Int))) : Int → Option ((Unit) ⊕ (Int))
 | x3 =>
 (bif (decide ((0 : Int) ≤ x3)) then
 gd (0 ≤ x3) <|
 gd (x3 < ((List.length x1 : Nat) : Int)) <|
 gd (0 ≤ x3) <|
 gd (x3 < ((List.length x2 : Nat) : Int)) <|
 (bif (decide ((List.getD x1 (toN x3) (0 : Int)) < (List.getD x2 (toN x3) (0 : Int)))) then
 some (.inr (-1 : Int))
 else
 gd (0 ≤ x3) <|
 gd (x3 < ((List.length x1 : Nat) : Int)) <|
 gd (0 ≤ x3) <|
 gd (x3 < ((List.length x2 : Nat) : Int)) <|
 (bif (decide ((List.getD x2 (toN x3) (0 : Int)) < (List.getD x1 (toN x3) (0 : Int)))) then
 some (.inr (1 : Int))
 else
 again (wrapI .i64 (x3 - (1 : Int)))))
 else
 some (.inl ()))

def f81_l0 (x1 : List Int) (x2 : List Int) : Nat → Int → Option ((Unit) ⊕ (Int)) := loopF (f81_l0_b x1 x2)

theorem f81_l0_ok (x1 : List Int) (x2 : List Int) (k : Nat) (x3 : Int) {out : ((Unit) ⊕ (Int))} (h : f81_l0 x1 x2 k x3 = some out) : Run Pg 41 (bk1 (sq2 (sq1 (sq2 (sq2 c_81))))) ⟨[(0, .d t83 x1), (1, .d t83 x2), (5, .d t2 x3)], []⟩ (f81_l0_post x1 x2 out) := by
 refine Run.loopN (by kernel_rfl) (fun m s => ∃ x3, s = ⟨[(0, .d t83 x1), (1, .d t83 x2), (5, .d t2 x3)], []⟩ ∧ f81_l0 x1 x2 m x3 = some out) ?_ k ⟨x3,  rfl, h⟩
 rintro m s ⟨x3,  rfl, h⟩
 cases m with
 | zero => cases h
 | succ m =>
 replace h : f81_l0_b x1 x2 (f81_l0 x1 x2 m) x3 = some out := h
 unfold f81_l0_b at h
 refine Run.sq ?_
 refine qN [] 700 ⟨[(0, .d t83 x1), (1, .d t83 x2), (5, .d t2 x3), (20, .d t4 (decide ((0 : Int) ≤ x3)))], []⟩ aN ?_
 refine Run.cd (decide ((0 : Int) ≤ x3)) (fun hb => ?_) (fun hb => ?_)
 ·replace h := bif_t h hb
  refine Run.sk ?_
  show Run Pg 41 _ _ _
  refine Run.sq ?_
  refine Run.bl 1 ?_
  refine Run.sq ?_
  obtain ⟨g_0, h⟩ := gd_elim h
  obtain ⟨g_1, h⟩ := gd_elim h
  obtain ⟨g_2, h⟩ := gd_elim h
  obtain ⟨g_3, h⟩ := gd_elim h
  refine qN [] 900 ⟨[(0, .d t83 x1), (1, .d t83 x2), (5, .d t2 x3), (31, .d t4 (decide ((List.getD x1 (toN x3) (0 : Int)) < (List.getD x2 (toN x3) (0 : Int)))))], []⟩ (aC g_0 (aC g_1 (aC g_2 (aC g_3 aN)))) ?_
  refine Run.cd (decide ((List.getD x1 (toN x3) (0 : Int)) < (List.getD x2 (toN x3) (0 : Int)))) (fun hb => ?_) (fun hb => ?_)
  ·replace h := bif_t h hb
   refine qN [] 1000 ⟨[(4, .d t2 (-1 : Int))], []⟩ aN ?_
   refine Run.rt ?_
   obtain rfl := sI h
   exact ⟨rfl, [(.d t2 (-1 : Int))], by kernel_rfl, by kernel_rfl⟩
  ·replace h := bif_f h hb
   refine Run.sk ?_
   show Run Pg 41 _ _ _
   obtain ⟨g_0, h⟩ := gd_elim h
   obtain ⟨g_1, h⟩ := gd_elim h
   obtain ⟨g_2, h⟩ := gd_elim h
   obtain ⟨g_3, h⟩ := gd_elim h
   refine qN [] 1100 ⟨[(0, .d t83 x1), (1, .d t83 x2), (5, .d t2 x3), (40, .d t4 (decide ((List.getD x2 (toN x3) (0 : Int)) < (List.getD x1 (toN x3) (0 : Int)))))], []⟩ (aC g_0 (aC g_1 (aC g_2 (aC g_3 aN)))) ?_
   refine Run.cd (decide ((List.getD x2 (toN x3) (0 : Int)) < (List.getD x1 (toN x3) (0 : Int)))) (fun hb => ?_) (fun hb => ?_)
   ·replace h := bif_t h hb
    refine qN [] 1200 ⟨[(4, .d t2 (1 : Int))], []⟩ aN ?_
    refine Run.rt ?_
    obtain rfl := sI h
    exact ⟨rfl, [(.d t2 (1 : Int))], by kernel_rfl, by kernel_rfl⟩
   ·replace h := bif_f h hb
    refine Run.sk ?_
    show Run Pg 41 _ _ _
    refine qE [] 800 ⟨[(0, .d t83 x1), (1, .d t83 x2), (5, .d t2 (wrapI .i64 (x3 - (1 : Int))))], []⟩ aN ?_
    exact ⟨m, Nat.lt_succ_self m, _, rfl, h⟩
 ·replace h := bif_f h hb
  refine qK ⟨[], []⟩ ?_
  refine Run.ex 0 ?_
  obtain rfl := sI h
  exact ⟨rfl, by kernel_rfl⟩

def F81 (a0 : List Int) (a1 : List Int) : Option (Int) :=
 (bif ((ofN (List.length a0)) != (ofN (List.length a1))) then
 (bif (decide ((ofN (List.length a0)) < (ofN (List.length a1)))) then
 some (-1 : Int)
 else
 some (1 : Int))
 else
 ((f81_l0 a0 a1 (2 + List.length a0 + List.length a1) (wrapI .i64 ((ofN (List.length a0)) - (1 : Int)))).bind fun o4 => match o4 with
 | .inl o5 =>
 some (0 : Int)
 | .inr o6 =>
 some o6))

theorem c81 {a0 : List Int} {a1 : List Int} {r : Int} (h : F81 a0 a1 = some r) : CallPure Pg 81 [(.d t83 a0), (.d t83 a1)] (.d t2 r) := by
 refine qC c_81 41 [.tmp 4] [3] Go.Proofs.Tryz.func81 ?_
 show Run Pg 41 c_81 ⟨[(0, .d t83 a0), (1, .d t83 a1)], []⟩ (fin81 r)
 unfold F81 at h
 refine qN [] 100 ⟨[(0, .d t83 a0), (1, .d t83 a1)], []⟩ aN ?_
 refine Run.sq ?_
 refine qN [] 200 ⟨[(0, .d t83 a0), (1, .d t83 a1), (10, .d t4 ((ofN (List.length a0)) != (ofN (List.length a1))))], []⟩ aN ?_
 refine Run.cd ((ofN (List.length a0)) != (ofN (List.length a1))) (fun hb => ?_) (fun hb => ?_)
 ·replace h := bif_t h hb
  refine Run.sq ?_
  refine qN [] 300 ⟨[(15, .d t4 (decide ((ofN (List.length a0)) < (ofN (List.length a1)))))], []⟩ aN ?_
  refine Run.cd (decide ((ofN (List.length a0)) < (ofN (List.length a1)))) (fun hb => ?_) (fun hb => ?_)
  ·replace h := bif_t h hb
   refine qN [] 400 ⟨[(4, .d t2 (-1 : Int))], []⟩ aN ?_
   refine Run.rt ?_
   obtain rfl := sI h
   exact qR [(.d t2 (-1 : Int))]
  ·replace h := bif_f h hb
   refine Run.sk ?_
   show Run Pg 41 _ _ _
   refine qN [] 500 ⟨[(4, .d t2 (1 : Int))], []⟩ aN ?_
   refine Run.rt ?_
   obtain rfl := sI h
   exact qR [(.d t2 (1 : Int))]
 ·replace h := bif_f h hb
  refine Run.sk ?_
  show Run Pg 41 _ _ _
  refine Run.sq ?_
  refine qN [] 600 ⟨[(0, .d t83 a0), (1, .d t83 a1), (5, .d t2 (wrapI .i64 ((ofN (List.length a0)) - (1 : Int))))], []⟩ aN ?_
  refine Run.bl 0 ?_
  obtain ⟨o4, h_o4, h⟩ := bnd_elim h
  refine Run.mono (f81_l0_ok a0 a1 _ (wrapI .i64 ((ofN (List.length a0)) - (1 : Int))) h_o4) ?_
  rcases o4 with o5 | o6
  ·rintro _ _ ⟨rfl, rfl⟩
   show Run Pg 41 _ _ _
   refine qN [] 1300 ⟨[(4, .d t2 (0 : Int))], []⟩ aN ?_
   refine Run.rt ?_
   obtain rfl := sI h
   exact qR [(.d t2 (0 : Int))]
  ·rintro _ s ⟨rfl, hr⟩
   obtain rfl := sI h
   exact hr


end Go.Sw
