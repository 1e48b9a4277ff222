/- Each function of the code computes the Lean function of the same number wherever that has a value; no other conditions. -/
import Derived.Test.YtcmbahhinnojaaaHa
namespace Go.Sw
open Go Go.Sw
set_option linter.unusedSimpArgs false
set_option linter.unusedVariables false

/-! ## f95 -/

noncomputable def c_95 : Code := body0 Go.Proofs.Try.f95

def fin95s0 (a4 : List Int) (r : Bool × (List Int)) : Ex → St → Prop := endS X0 [.tmp 6] [4] (.d t4 r.1) [(1000000, (.vec 130 t130 r.2))]

def f95s0_c1_post (x34 : Nat) (x35 : Nat) (x36 : List Int) (x37 : Int) (x38 : Int) (x39 : Int) (x40 : Int) (x41 : Int) (x42 : Bool) (x43 : List Int) : (Int) → Ex → St → Prop
  | o, x, s => x = .nrm ∧ s = ⟨[(0, (.sub 1000000 t130 x34 x35)), (1, (.d t96 x36)), (2, (.d t12 x37)), (8, (.d t12 x38)), (9, (.d t2 x39)), (10, (.d t12 o)), (14, (.d t2 x41)), (15, (.d t2 x39))], [(1000000, (.vec 130 t130 x43))]⟩

def f95s0_c1 (x36 : List Int) (x37 : Int) (x39 : Int) (x40 : Int) (x42 : Bool) : Option (Int) :=
  (bif x42 then
    gd (0 ≤ x39) <|
    gd (x39 < ((List.length x36 : Nat) : Int)) <|
    some (wrapI .u64 (x40 + (wrapI .u64 ((wrapI .u64 (List.getD x36 (toN x39) (0 : Int))) * x37))))
  else
    some x40)

theorem f95s0_c1_ok (x34 : Nat) (x35 : Nat) (x36 : List Int) (x37 : Int) (x38 : Int) (x39 : Int) (x40 : Int) (x41 : Int) (x42 : Bool) (x43 : List Int) {out : (Int)} (h : f95s0_c1 x36 x37 x39 x40 x42 = some out) : Run Pg 62 (sq2 (sq1 (sq2 (sq2 (bk1 (sq1 (sq2 (sq2 (lp1 (bk1 (sq2 (sq1 (sq2 (sq2 c_95)))))))))))))) ⟨[(0, (.sub 1000000 t130 x34 x35)), (1, (.d t96 x36)), (2, (.d t12 x37)), (8, (.d t12 x38)), (9, (.d t2 x39)), (10, (.d t12 x40)), (14, (.d t2 x41)), (15, (.d t2 x39)), (22, (.d t4 x42))], [(1000000, (.vec 130 t130 x43))]⟩ (f95s0_c1_post x34 x35 x36 x37 x38 x39 x40 x41 x42 x43 out) := by
  unfold f95s0_c1 at h
  refine Run.condN x42 (by kernel_rfl) (fun hb => ?_) (fun hb => ?_)
  · replace h := bif_t h hb
    obtain ⟨g_0, h⟩ := gd_elim h
    obtain ⟨g_1, h⟩ := gd_elim h
    refine Run.regE hX [] 800 [0, 1, 2, 8, 9, 10, 14, 15] [1000000] ⟨[(0, (.sub 1000000 t130 x34 x35)), (1, (.d t96 x36)), (2, (.d t12 x37)), (8, (.d t12 x38)), (9, (.d t2 x39)), (10, (.d t12 (wrapI .u64 (x40 + (wrapI .u64 ((wrapI .u64 (List.getD x36 (toN x39) (0 : Int))) * x37)))))), (14, (.d t2 x41)), (15, (.d t2 x39))], [(1000000, (.vec 130 t130 x43))]⟩ [(0 ≤ x39), (x39 < ((List.length x36 : Nat) : Int))] (by kernel_rfl) ⟨g_0, g_1, trivial⟩ ?_
    replace h := Option.some.inj h
    subst h
    exact ⟨rfl, by kernel_rfl⟩
  · replace h := bif_f h hb
    refine Run.keep (s' := ⟨[(0, (.sub 1000000 t130 x34 x35)), (1, (.d t96 x36)), (2, (.d t12 x37)), (8, (.d t12 x38)), (9, (.d t2 x39)), (10, (.d t12 x40)), (14, (.d t2 x41)), (15, (.d t2 x39))], [(1000000, (.vec 130 t130 x43))]⟩) [0, 1, 2, 8, 9, 10, 14, 15] [1000000] (by kernel_rfl) ?_
    refine Run.skipN (by kernel_rfl) ?_
    replace h := Option.some.inj h
    subst h
    exact ⟨rfl, by kernel_rfl⟩

def f95s0_c2_post (x45 : Nat) (x46 : Nat) (x47 : List Int) (x48 : Int) (x49 : Int) (x50 : Int) (x51 : Int) (x52 : Int) (x53 : Int) (x54 : Int) (x55 : Bool) (x56 : List Int) : (Int × Int) → Ex → St → Prop
  | o, x, s => x = .nrm ∧ s = ⟨[(0, (.sub 1000000 t130 x45 x46)), (1, (.d t96 x47)), (2, (.d t12 x48)), (7, (.d t12 x49)), (8, (.d t12 o.1)), (9, (.d t2 x51)), (11, (.d t12 x52)), (12, (.d t12 o.2)), (14, (.d t2 x54)), (15, (.d t2 x51))], [(1000000, (.vec 130 t130 x56))]⟩

def f95s0_c2 (x50 : Int) (x53 : Int) (x55 : Bool) : Option (Int × Int) :=
  (bif x55 then
    some ((1 : Int), (wrapI .u64 (x53 + (1000000000 : Int))))
  else
    some (x50, x53))

theorem f95s0_c2_ok (x45 : Nat) (x46 : Nat) (x47 : List Int) (x48 : Int) (x49 : Int) (x50 : Int) (x51 : Int) (x52 : Int) (x53 : Int) (x54 : Int) (x55 : Bool) (x56 : List Int) {out : (Int × Int)} (h : f95s0_c2 x50 x53 x55 = some out) : Run Pg 62 (sq2 (sq1 (sq2 (sq2 (sq2 (sq2 (sq2 (sq2 (sq2 (bk1 (sq1 (sq2 (sq2 (lp1 (bk1 (sq2 (sq1 (sq2 (sq2 c_95))))))))))))))))))) ⟨[(0, (.sub 1000000 t130 x45 x46)), (1, (.d t96 x47)), (2, (.d t12 x48)), (7, (.d t12 x49)), (8, (.d t12 x50)), (9, (.d t2 x51)), (11, (.d t12 x52)), (12, (.d t12 x53)), (14, (.d t2 x54)), (15, (.d t2 x51)), (45, (.d t4 x55))], [(1000000, (.vec 130 t130 x56))]⟩ (f95s0_c2_post x45 x46 x47 x48 x49 x50 x51 x52 x53 x54 x55 x56 out) := by
  unfold f95s0_c2 at h
  refine Run.condN x55 (by kernel_rfl) (fun hb => ?_) (fun hb => ?_)
  · replace h := bif_t h hb
    refine Run.regE hX [] 1400 [0, 1, 2, 7, 8, 9, 11, 12, 14, 15] [1000000] ⟨[(0, (.sub 1000000 t130 x45 x46)), (1, (.d t96 x47)), (2, (.d t12 x48)), (7, (.d t12 x49)), (8, (.d t12 (1 : Int))), (9, (.d t2 x51)), (11, (.d t12 x52)), (12, (.d t12 (wrapI .u64 (x53 + (1000000000 : Int))))), (14, (.d t2 x54)), (15, (.d t2 x51))], [(1000000, (.vec 130 t130 x56))]⟩ [] (by kernel_rfl) trivial ?_
    replace h := Option.some.inj h
    subst h
    exact ⟨rfl, by kernel_rfl⟩
  · replace h := bif_f h hb
    refine Run.keep (s' := ⟨[(0, (.sub 1000000 t130 x45 x46)), (1, (.d t96 x47)), (2, (.d t12 x48)), (7, (.d t12 x49)), (8, (.d t12 x50)), (9, (.d t2 x51)), (11, (.d t12 x52)), (12, (.d t12 x53)), (14, (.d t2 x54)), (15, (.d t2 x51))], [(1000000, (.vec 130 t130 x56))]⟩) [0, 1, 2, 7, 8, 9, 11, 12, 14, 15] [1000000] (by kernel_rfl) ?_
    refine Run.skipN (by kernel_rfl) ?_
    replace h := Option.some.inj h
    subst h
    exact ⟨rfl, by kernel_rfl⟩

def f95s0_l0_post (x1 : Nat) (x2 : Nat) (x3 : List Int) (x4 : Int) (x7 : Int) : (Int × Int × (List Int)) → Ex → St → Prop
  | o, x, s => x = .out 0 ∧ s = ⟨[(7, (.d t12 o.1)), (8, (.d t12 o.2.1))], [(1000000, (.vec 130 t130 o.2.2))]⟩

def f95s0_l0_b (x1 : Nat) (x2 : Nat) (x3 : List Int) (x4 : Int) (x7 : Int) (again : Int × Int × Int × (List Int) → Option (Int × Int × (List Int))) : Int × Int × Int × (List Int) → Option (Int × Int × (List Int))
  | (x5, x6, x8, x9) =>
    (bif (decide (x8 < x7)) then
      ((f95s0_c1 x3 x4 x8 x5 (decide (x8 < (ofN (List.length x3))))).bind fun o44 =>
        gd (0 ≤ x8) <|
        gd (x8 < ((x2 : Nat) : Int)) <|
        gd ((x1 + toN x8) < List.length x9) <|
        ((f95s0_c2 (0 : Int) (wrapI .u64 (List.getD x9 (x1 + toN x8) (0 : Int))) (decide ((wrapI .u64 (List.getD x9 (x1 + toN x8) (0 : Int))) < (wrapI .u64 ((Int.tmod o44 (1000000000 : Int)) + x6))))).bind fun o57 =>
          gd (0 ≤ x8) <|
          gd (x8 < ((x2 : Nat) : Int)) <|
          gd ((x1 + toN x8) < List.length x9) <|
          again ((wrapI .u64 (Int.tdiv o44 (1000000000 : Int))), o57.1, (wrapI .i64 (x8 + (1 : Int))), (List.set x9 (x1 + toN x8) (wrapI .u32 (wrapI .u64 (o57.2 - (wrapI .u64 ((Int.tmod o44 (1000000000 : Int)) + x6)))))))))
    else
      some (x5, x6, x9))

def f95s0_l0 (x1 : Nat) (x2 : Nat) (x3 : List Int) (x4 : Int) (x7 : Int) : Nat → Int × Int × Int × (List Int) → Option (Int × Int × (List Int)) := loopF (f95s0_l0_b x1 x2 x3 x4 x7)

theorem f95s0_l0_ok (x1 : Nat) (x2 : Nat) (x3 : List Int) (x4 : Int) (x7 : Int) (k : Nat) (x5 : Int) (x6 : Int) (x8 : Int) (x9 : List Int) {out : (Int × Int × (List Int))} (h : f95s0_l0 x1 x2 x3 x4 x7 k (x5, x6, x8, x9) = some out) : Run Pg 62 (bk1 (sq2 (sq1 (sq2 (sq2 c_95))))) ⟨[(0, (.sub 1000000 t130 x1 x2)), (1, (.d t96 x3)), (2, (.d t12 x4)), (7, (.d t12 x5)), (8, (.d t12 x6)), (14, (.d t2 x7)), (15, (.d t2 x8))], [(1000000, (.vec 130 t130 x9))]⟩ (f95s0_l0_post x1 x2 x3 x4 x7 out) := by
  refine Run.loopN (by kernel_rfl) (fun m s => ∃ x5 x6 x8 x9, s = ⟨[(0, (.sub 1000000 t130 x1 x2)), (1, (.d t96 x3)), (2, (.d t12 x4)), (7, (.d t12 x5)), (8, (.d t12 x6)), (14, (.d t2 x7)), (15, (.d t2 x8))], [(1000000, (.vec 130 t130 x9))]⟩ ∧ f95s0_l0 x1 x2 x3 x4 x7 m (x5, x6, x8, x9) = some out) ?_ k ⟨x5, x6, x8, x9,  rfl, h⟩
  rintro m s ⟨x5, x6, x8, x9,  rfl, h⟩
  cases m with
  | zero => cases h
  | succ m =>
  replace h : f95s0_l0_b x1 x2 x3 x4 x7 (f95s0_l0 x1 x2 x3 x4 x7 m) (x5, x6, x8, x9) = some out := h
  unfold f95s0_l0_b at h
  refine Run.regN hX [] 400 [0, 1, 2, 7, 8, 14, 15, 16] [1000000] ⟨[(0, (.sub 1000000 t130 x1 x2)), (1, (.d t96 x3)), (2, (.d t12 x4)), (7, (.d t12 x5)), (8, (.d t12 x6)), (14, (.d t2 x7)), (15, (.d t2 x8)), (16, (.d t4 (decide (x8 < x7))))], [(1000000, (.vec 130 t130 x9))]⟩ [] (by kernel_rfl) (by kernel_rfl) trivial ?_
  refine Run.seqN (by kernel_rfl) ?_
  refine Run.condN (decide (x8 < x7)) (by kernel_rfl) (fun hb => ?_) (fun hb => ?_)
  · replace h := bif_t h hb
    refine Run.skipN (by kernel_rfl) ?_
    show Run Pg 62 _ _ _
    refine Run.seqN (by kernel_rfl) ?_
    refine Run.blockN 1 (by kernel_rfl) ?_
    refine Run.regN hX [] 500 [0, 1, 2, 7, 8, 9, 14, 15] [1000000] ⟨[(0, (.sub 1000000 t130 x1 x2)), (1, (.d t96 x3)), (2, (.d t12 x4)), (7, (.d t12 x5)), (8, (.d t12 x6)), (9, (.d t2 x8)), (14, (.d t2 x7)), (15, (.d t2 x8))], [(1000000, (.vec 130 t130 x9))]⟩ [] (by kernel_rfl) (by kernel_rfl) trivial ?_
    refine Run.regN hX [] 600 [0, 1, 2, 8, 9, 10, 14, 15] [1000000] ⟨[(0, (.sub 1000000 t130 x1 x2)), (1, (.d t96 x3)), (2, (.d t12 x4)), (8, (.d t12 x6)), (9, (.d t2 x8)), (10, (.d t12 x5)), (14, (.d t2 x7)), (15, (.d t2 x8))], [(1000000, (.vec 130 t130 x9))]⟩ [] (by kernel_rfl) (by kernel_rfl) trivial ?_
    refine Run.seqN (by kernel_rfl) ?_
    refine Run.regN hX [] 700 [0, 1, 2, 8, 9, 10, 14, 15, 22] [1000000] ⟨[(0, (.sub 1000000 t130 x1 x2)), (1, (.d t96 x3)), (2, (.d t12 x4)), (8, (.d t12 x6)), (9, (.d t2 x8)), (10, (.d t12 x5)), (14, (.d t2 x7)), (15, (.d t2 x8)), (22, (.d t4 (decide (x8 < (ofN (List.length x3))))))], [(1000000, (.vec 130 t130 x9))]⟩ [] (by kernel_rfl) (by kernel_rfl) trivial ?_
    obtain ⟨o44, h_o44, h⟩ := bnd_elim h
    refine Run.mono (f95s0_c1_ok x1 x2 x3 x4 x6 x8 x5 x7 (decide (x8 < (ofN (List.length x3)))) x9 h_o44) ?_
    rintro x s ⟨hx, hs⟩
    subst hx
    subst hs
    show Run Pg 62 _ _ _
    refine Run.regN hX [] 900 [0, 1, 2, 7, 8, 9, 10, 14, 15] [1000000] ⟨[(0, (.sub 1000000 t130 x1 x2)), (1, (.d t96 x3)), (2, (.d t12 x4)), (7, (.d t12 (wrapI .u64 (Int.tdiv o44 (1000000000 : Int))))), (8, (.d t12 x6)), (9, (.d t2 x8)), (10, (.d t12 o44)), (14, (.d t2 x7)), (15, (.d t2 x8))], [(1000000, (.vec 130 t130 x9))]⟩ [((1000000000 : Int) ≠ 0)] (by kernel_rfl) (by kernel_rfl) ⟨(by decide), trivial⟩ ?_
    refine Run.regN hX [] 1000 [0, 1, 2, 7, 9, 11, 14, 15] [1000000] ⟨[(0, (.sub 1000000 t130 x1 x2)), (1, (.d t96 x3)), (2, (.d t12 x4)), (7, (.d t12 (wrapI .u64 (Int.tdiv o44 (1000000000 : Int))))), (9, (.d t2 x8)), (11, (.d t12 (wrapI .u64 ((Int.tmod o44 (1000000000 : Int)) + x6)))), (14, (.d t2 x7)), (15, (.d t2 x8))], [(1000000, (.vec 130 t130 x9))]⟩ [((1000000000 : Int) ≠ 0)] (by kernel_rfl) (by kernel_rfl) ⟨(by decide), trivial⟩ ?_
    refine Run.regN hX [] 1100 [0, 1, 2, 7, 8, 9, 11, 14, 15] [1000000] ⟨[(0, (.sub 1000000 t130 x1 x2)), (1, (.d t96 x3)), (2, (.d t12 x4)), (7, (.d t12 (wrapI .u64 (Int.tdiv o44 (1000000000 : Int))))), (8, (.d t12 (0 : Int))), (9, (.d t2 x8)), (11, (.d t12 (wrapI .u64 ((Int.tmod o44 (1000000000 : Int)) + x6)))), (14, (.d t2 x7)), (15, (.d t2 x8))], [(1000000, (.vec 130 t130 x9))]⟩ [] (by kernel_rfl) (by kernel_rfl) trivial ?_
    obtain ⟨g_0, h⟩ := gd_elim h
    obtain ⟨g_1, h⟩ := gd_elim h
    obtain ⟨g_2, h⟩ := gd_elim h
    refine Run.regN hX [] 1200 [0, 1, 2, 7, 8, 9, 11, 12, 14, 15] [1000000] ⟨[(0, (.sub 1000000 t130 x1 x2)), (1, (.d t96 x3)), (2, (.d t12 x4)), (7, (.d t12 (wrapI .u64 (Int.tdiv o44 (1000000000 : Int))))), (8, (.d t12 (0 : Int))), (9, (.d t2 x8)), (11, (.d t12 (wrapI .u64 ((Int.tmod o44 (1000000000 : Int)) + x6)))), (12, (.d t12 (wrapI .u64 (List.getD x9 (x1 + toN x8) (0 : Int))))), (14, (.d t2 x7)), (15, (.d t2 x8))], [(1000000, (.vec 130 t130 x9))]⟩ [(0 ≤ x8), (x8 < ((x2 : Nat) : Int)), ((x1 + toN x8) < List.length x9)] (by kernel_rfl) (by kernel_rfl) ⟨g_0, g_1, g_2, trivial⟩ ?_
    refine Run.seqN (by kernel_rfl) ?_
    refine Run.regN hX [] 1300 [0, 1, 2, 7, 8, 9, 11, 12, 14, 15, 45] [1000000] ⟨[(0, (.sub 1000000 t130 x1 x2)), (1, (.d t96 x3)), (2, (.d t12 x4)), (7, (.d t12 (wrapI .u64 (Int.tdiv o44 (1000000000 : Int))))), (8, (.d t12 (0 : Int))), (9, (.d t2 x8)), (11, (.d t12 (wrapI .u64 ((Int.tmod o44 (1000000000 : Int)) + x6)))), (12, (.d t12 (wrapI .u64 (List.getD x9 (x1 + toN x8) (0 : Int))))), (14, (.d t2 x7)), (15, (.d t2 x8)), (45, (.d t4 (decide ((wrapI .u64 (List.getD x9 (x1 + toN x8) (0 : Int))) < (wrapI .u64 ((Int.tmod o44 (1000000000 : Int)) + x6))))))], [(1000000, (.vec 130 t130 x9))]⟩ [] (by kernel_rfl) (by kernel_rfl) trivial ?_
    obtain ⟨o57, h_o57, h⟩ := bnd_elim h
    refine Run.mono (f95s0_c2_ok x1 x2 x3 x4 (wrapI .u64 (Int.tdiv o44 (1000000000 : Int))) (0 : Int) x8 (wrapI .u64 ((Int.tmod o44 (1000000000 : Int)) + x6)) (wrapI .u64 (List.getD x9 (x1 + toN x8) (0 : Int))) x7 (decide ((wrapI .u64 (List.getD x9 (x1 + toN x8) (0 : Int))) < (wrapI .u64 ((Int.tmod o44 (1000000000 : Int)) + x6)))) x9 h_o57) ?_
    rintro x s ⟨hx, hs⟩
    subst hx
    subst hs
    show Run Pg 62 _ _ _
    obtain ⟨g_0, h⟩ := gd_elim h
    obtain ⟨g_1, h⟩ := gd_elim h
    obtain ⟨g_2, h⟩ := gd_elim h
    refine Run.regE hX [] 1500 [0, 1, 2, 7, 8, 14, 15] [1000000] ⟨[(0, (.sub 1000000 t130 x1 x2)), (1, (.d t96 x3)), (2, (.d t12 x4)), (7, (.d t12 (wrapI .u64 (Int.tdiv o44 (1000000000 : Int))))), (8, (.d t12 o57.1)), (14, (.d t2 x7)), (15, (.d t2 x8))], [(1000000, (.vec 130 t130 (List.set x9 (x1 + toN x8) (wrapI .u32 (wrapI .u64 (o57.2 - (wrapI .u64 ((Int.tmod o44 (1000000000 : Int)) + x6))))))))]⟩ [(0 ≤ x8), (x8 < ((x2 : Nat) : Int)), ((x1 + toN x8) < List.length x9)] (by kernel_rfl) ⟨g_0, g_1, g_2, trivial⟩ ?_
    show Run Pg 62 _ _ _
    refine Run.regE hX [] 1600 [0, 1, 2, 7, 8, 14, 15] [1000000] ⟨[(0, (.sub 1000000 t130 x1 x2)), (1, (.d t96 x3)), (2, (.d t12 x4)), (7, (.d t12 (wrapI .u64 (Int.tdiv o44 (1000000000 : Int))))), (8, (.d t12 o57.1)), (14, (.d t2 x7)), (15, (.d t2 (wrapI .i64 (x8 + (1 : Int)))))], [(1000000, (.vec 130 t130 (List.set x9 (x1 + toN x8) (wrapI .u32 (wrapI .u64 (o57.2 - (wrapI .u64 ((Int.tmod o44 (1000000000 : Int)) + x6))))))))]⟩ [] (by kernel_rfl) trivial ?_
    exact ⟨m, Nat.lt_succ_self m, _, _, _, _, rfl, h⟩
  · replace h := bif_f h hb
    refine Run.keep (s' := ⟨[(7, (.d t12 x5)), (8, (.d t12 x6))], [(1000000, (.vec 130 t130 x9))]⟩) [7, 8] [1000000] (by kernel_rfl) ?_
    refine Run.exitN 0 (by kernel_rfl) ?_
    replace h := Option.some.inj h
    subst h
    exact ⟨rfl, by kernel_rfl⟩

def F95s0 (a0 : Nat) (a1 : Nat) (a2 : List Int) (a3 : Int) (a4 : List Int) : Option (Bool × (List Int)) :=
  ((f95s0_l0 a0 a1 a2 a3 (ofN a1) (2 + List.length a2 + List.length a4) ((0 : Int), (0 : Int), (0 : Int), a4)).bind fun o58 =>
    (bif (decide ((0 : Int) < o58.2.1)) then
      some (true, o58.2.2)
    else
      some ((decide ((0 : Int) < o58.1)), o58.2.2)))

theorem c95s0 {a0 : Nat} {a1 : Nat} {a2 : List Int} {a3 : Int} {a4 : List Int} {r : Bool × (List Int)} (h : F95s0 a0 a1 a2 a3 a4 = some r) : CallSt Pg 95 [(.sub 1000000 t130 a0 a1), (.d t96 a2), (.d t12 a3)] [(1000000, (.vec 130 t130 a4))] (.d t4 r.1) [(1000000, (.vec 130 t130 r.2))] := by
  refine callStN hX c_95 62 [.tmp 6] [4] Go.Proofs.Try.func95 (by kernel_rfl) (by kernel_rfl) (by kernel_rfl) (Nat.le_of_ble_eq_true rfl) rfl ?_
  show Run Pg 62 c_95 ⟨[(0, (.sub 1000000 t130 a0 a1)), (1, (.d t96 a2)), (2, (.d t12 a3))], [(1000000, (.vec 130 t130 a4))]⟩ (fin95s0 a4 r)
  unfold F95s0 at h
  refine Run.regN hX [] 100 [0, 1, 2] [1000000] ⟨[(0, (.sub 1000000 t130 a0 a1)), (1, (.d t96 a2)), (2, (.d t12 a3))], [(1000000, (.vec 130 t130 a4))]⟩ [] (by kernel_rfl) (by kernel_rfl) trivial ?_
  refine Run.regN hX [] 200 [0, 1, 2, 7, 8] [1000000] ⟨[(0, (.sub 1000000 t130 a0 a1)), (1, (.d t96 a2)), (2, (.d t12 a3)), (7, (.d t12 (0 : Int))), (8, (.d t12 (0 : Int)))], [(1000000, (.vec 130 t130 a4))]⟩ [] (by kernel_rfl) (by kernel_rfl) trivial ?_
  refine Run.seqN (by kernel_rfl) ?_
  refine Run.regN hX [] 300 [0, 1, 2, 7, 8, 14, 15] [1000000] ⟨[(0, (.sub 1000000 t130 a0 a1)), (1, (.d t96 a2)), (2, (.d t12 a3)), (7, (.d t12 (0 : Int))), (8, (.d t12 (0 : Int))), (14, (.d t2 (ofN a1))), (15, (.d t2 (0 : Int)))], [(1000000, (.vec 130 t130 a4))]⟩ [] (by kernel_rfl) (by kernel_rfl) trivial ?_
  refine Run.blockN 0 (by kernel_rfl) ?_
  obtain ⟨o58, h_o58, h⟩ := bnd_elim h
  refine Run.mono (f95s0_l0_ok a0 a1 a2 a3 (ofN a1) _ (0 : Int) (0 : Int) (0 : Int) a4 h_o58) ?_
  rintro x s ⟨hx, hs⟩
  subst hx
  subst hs
  show Run Pg 62 _ _ _
  rcases bif_elim h with ⟨hb0, h⟩ | ⟨hb0, h⟩
  · refine Run.regN hX [(2, .b true)] 1700 [6] [1000000] ⟨[(6, (.d t4 true))], [(1000000, (.vec 130 t130 o58.2.2))]⟩ [(decide ((0 : Int) < o58.2.1)) = true] (by kernel_rfl) (by kernel_rfl) ⟨hb0, trivial⟩ ?_
    refine Run.retN (by kernel_rfl) ?_
    replace h := Option.some.inj h
    subst h
    exact ⟨[(.d t4 true)], ⟨[], [(1000000, (.vec 130 t130 o58.2.2))]⟩, by kernel_rfl, by kernel_rfl, by kernel_rfl, by kernel_rfl⟩
  · refine Run.regN hX [(2, .b false)] 1700 [6] [1000000] ⟨[(6, (.d t4 (decide ((0 : Int) < o58.1))))], [(1000000, (.vec 130 t130 o58.2.2))]⟩ [(decide ((0 : Int) < o58.2.1)) = false] (by kernel_rfl) (by kernel_rfl) ⟨hb0, trivial⟩ ?_
    refine Run.retN (by kernel_rfl) ?_
    replace h := Option.some.inj h
    subst h
    exact ⟨[(.d t4 (decide ((0 : Int) < o58.1)))], ⟨[], [(1000000, (.vec 130 t130 o58.2.2))]⟩, by kernel_rfl, by kernel_rfl, by kernel_rfl, by kernel_rfl⟩

/-! ## f96 -/

noncomputable def c_96 : Code := body0 Go.Proofs.Try.f96

def fin96s0 (a3 : List Int) (r : (List Int)) : Ex → St → Prop := endS X0 [] [] (.tup .vnil) [(1000000, (.vec 130 t130 r))]

def f96s0_c1_post (x27 : Nat) (x28 : Nat) (x29 : List Int) (x30 : Int) (x31 : Int) (x32 : Int) (x33 : Bool) (x34 : List Int) : (Int) → Ex → St → Prop
  | o, x, s => x = .nrm ∧ s = ⟨[(0, (.sub 1000000 t130 x27 x28)), (1, (.d t96 x29)), (5, (.d t2 x30)), (6, (.d t130 o)), (8, (.d t2 x32)), (9, (.d t2 x30))], [(1000000, (.vec 130 t130 x34))]⟩

def f96s0_c1 (x29 : List Int) (x30 : Int) (x31 : Int) (x33 : Bool) : Option (Int) :=
  (bif x33 then
    gd (0 ≤ x30) <|
    gd (x30 < ((List.length x29 : Nat) : Int)) <|
    some (wrapI .u32 (x31 + (List.getD x29 (toN x30) (0 : Int))))
  else
    some x31)

theorem f96s0_c1_ok (x27 : Nat) (x28 : Nat) (x29 : List Int) (x30 : Int) (x31 : Int) (x32 : Int) (x33 : Bool) (x34 : List Int) {out : (Int)} (h : f96s0_c1 x29 x30 x31 x33 = some out) : Run Pg 37 (sq2 (sq1 (sq2 (sq2 (bk1 (sq1 (sq2 (sq2 (lp1 (bk1 (sq2 (sq2 c_96)))))))))))) ⟨[(0, (.sub 1000000 t130 x27 x28)), (1, (.d t96 x29)), (5, (.d t2 x30)), (6, (.d t130 x31)), (8, (.d t2 x32)), (9, (.d t2 x30)), (21, (.d t4 x33))], [(1000000, (.vec 130 t130 x34))]⟩ (f96s0_c1_post x27 x28 x29 x30 x31 x32 x33 x34 out) := by
  unfold f96s0_c1 at h
  refine Run.condN x33 (by kernel_rfl) (fun hb => ?_) (fun hb => ?_)
  · replace h := bif_t h hb
    obtain ⟨g_0, h⟩ := gd_elim h
    obtain ⟨g_1, h⟩ := gd_elim h
    refine Run.regE hX [] 700 [0, 1, 5, 6, 8, 9] [1000000] ⟨[(0, (.sub 1000000 t130 x27 x28)), (1, (.d t96 x29)), (5, (.d t2 x30)), (6, (.d t130 (wrapI .u32 (x31 + (List.getD x29 (toN x30) (0 : Int)))))), (8, (.d t2 x32)), (9, (.d t2 x30))], [(1000000, (.vec 130 t130 x34))]⟩ [(0 ≤ x30), (x30 < ((List.length x29 : Nat) : Int))] (by kernel_rfl) ⟨g_0, g_1, trivial⟩ ?_
    replace h := Option.some.inj h
    subst h
    exact ⟨rfl, by kernel_rfl⟩
  · replace h := bif_f h hb
    refine Run.keep (s' := ⟨[(0, (.sub 1000000 t130 x27 x28)), (1, (.d t96 x29)), (5, (.d t2 x30)), (6, (.d t130 x31)), (8, (.d t2 x32)), (9, (.d t2 x30))], [(1000000, (.vec 130 t130 x34))]⟩) [0, 1, 5, 6, 8, 9] [1000000] (by kernel_rfl) ?_
    refine Run.skipN (by kernel_rfl) ?_
    replace h := Option.some.inj h
    subst h
    exact ⟨rfl, by kernel_rfl⟩

def f96s0_c2_post (x36 : Nat) (x37 : Nat) (x38 : List Int) (x39 : Int) (x40 : Int) (x41 : Int) (x42 : Int) (x43 : Bool) (x44 : List Int) : (Int × Int) → Ex → St → Prop
  | o, x, s => x = .nrm ∧ s = ⟨[(0, (.sub 1000000 t130 x36 x37)), (1, (.d t96 x38)), (4, (.d t130 o.1)), (5, (.d t2 x40)), (6, (.d t130 o.2)), (8, (.d t2 x42)), (9, (.d t2 x40))], [(1000000, (.vec 130 t130 x44))]⟩

def f96s0_c2 (x39 : Int) (x41 : Int) (x43 : Bool) : Option (Int × Int) :=
  (bif x43 then
    some ((1 : Int), (wrapI .u32 (x41 - (1000000000 : Int))))
  else
    some (x39, x41))

theorem f96s0_c2_ok (x36 : Nat) (x37 : Nat) (x38 : List Int) (x39 : Int) (x40 : Int) (x41 : Int) (x42 : Int) (x43 : Bool) (x44 : List Int) {out : (Int × Int)} (h : f96s0_c2 x39 x41 x43 = some out) : Run Pg 37 (sq2 (sq1 (sq2 (sq2 (sq2 (sq2 (bk1 (sq1 (sq2 (sq2 (lp1 (bk1 (sq2 (sq2 c_96)))))))))))))) ⟨[(0, (.sub 1000000 t130 x36 x37)), (1, (.d t96 x38)), (4, (.d t130 x39)), (5, (.d t2 x40)), (6, (.d t130 x41)), (8, (.d t2 x42)), (9, (.d t2 x40)), (29, (.d t4 x43))], [(1000000, (.vec 130 t130 x44))]⟩ (f96s0_c2_post x36 x37 x38 x39 x40 x41 x42 x43 x44 out) := by
  unfold f96s0_c2 at h
  refine Run.condN x43 (by kernel_rfl) (fun hb => ?_) (fun hb => ?_)
  · replace h := bif_t h hb
    refine Run.regE hX [] 1000 [0, 1, 4, 5, 6, 8, 9] [1000000] ⟨[(0, (.sub 1000000 t130 x36 x37)), (1, (.d t96 x38)), (4, (.d t130 (1 : Int))), (5, (.d t2 x40)), (6, (.d t130 (wrapI .u32 (x41 - (1000000000 : Int))))), (8, (.d t2 x42)), (9, (.d t2 x40))], [(1000000, (.vec 130 t130 x44))]⟩ [] (by kernel_rfl) trivial ?_
    replace h := Option.some.inj h
    subst h
    exact ⟨rfl, by kernel_rfl⟩
  · replace h := bif_f h hb
    refine Run.keep (s' := ⟨[(0, (.sub 1000000 t130 x36 x37)), (1, (.d t96 x38)), (4, (.d t130 x39)), (5, (.d t2 x40)), (6, (.d t130 x41)), (8, (.d t2 x42)), (9, (.d t2 x40))], [(1000000, (.vec 130 t130 x44))]⟩) [0, 1, 4, 5, 6, 8, 9] [1000000] (by kernel_rfl) ?_
    refine Run.skipN (by kernel_rfl) ?_
    replace h := Option.some.inj h
    subst h
    exact ⟨rfl, by kernel_rfl⟩

def f96s0_l0_post (x1 : Nat) (x2 : Nat) (x3 : List Int) (x5 : Int) : ((List Int)) → Ex → St → Prop
  | o, x, s => x = .out 0 ∧ s = ⟨[], [(1000000, (.vec 130 t130 o))]⟩

def f96s0_l0_b (x1 : Nat) (x2 : Nat) (x3 : List Int) (x5 : Int) (again : Int × Int × (List Int) → Option ((List Int))) : Int × Int × (List Int) → Option ((List Int))
  | (x4, x6, x7) =>
    (bif (decide (x6 < x5)) then
      gd (0 ≤ x6) <|
      gd (x6 < ((x2 : Nat) : Int)) <|
      gd ((x1 + toN x6) < List.length x7) <|
      ((f96s0_c1 x3 x6 (wrapI .u32 ((List.getD x7 (x1 + toN x6) (0 : Int)) + x4)) (decide (x6 < (ofN (List.length x3))))).bind fun o35 =>
        ((f96s0_c2 (0 : Int) o35 (decide ((1000000000 : Int) ≤ o35))).bind fun o45 =>
          gd (0 ≤ x6) <|
          gd (x6 < ((x2 : Nat) : Int)) <|
          gd ((x1 + toN x6) < List.length x7) <|
          again (o45.1, (wrapI .i64 (x6 + (1 : Int))), (List.set x7 (x1 + toN x6) o45.2))))
    else
      some x7)

def f96s0_l0 (x1 : Nat) (x2 : Nat) (x3 : List Int) (x5 : Int) : Nat → Int × Int × (List Int) → Option ((List Int)) := loopF (f96s0_l0_b x1 x2 x3 x5)

theorem f96s0_l0_ok (x1 : Nat) (x2 : Nat) (x3 : List Int) (x5 : Int) (k : Nat) (x4 : Int) (x6 : Int) (x7 : List Int) {out : ((List Int))} (h : f96s0_l0 x1 x2 x3 x5 k (x4, x6, x7) = some out) : Run Pg 37 (bk1 (sq2 (sq2 c_96))) ⟨[(0, (.sub 1000000 t130 x1 x2)), (1, (.d t96 x3)), (4, (.d t130 x4)), (8, (.d t2 x5)), (9, (.d t2 x6))], [(1000000, (.vec 130 t130 x7))]⟩ (f96s0_l0_post x1 x2 x3 x5 out) := by
  refine Run.loopN (by kernel_rfl) (fun m s => ∃ x4 x6 x7, s = ⟨[(0, (.sub 1000000 t130 x1 x2)), (1, (.d t96 x3)), (4, (.d t130 x4)), (8, (.d t2 x5)), (9, (.d t2 x6))], [(1000000, (.vec 130 t130 x7))]⟩ ∧ f96s0_l0 x1 x2 x3 x5 m (x4, x6, x7) = some out) ?_ k ⟨x4, x6, x7,  rfl, h⟩
  rintro m s ⟨x4, x6, x7,  rfl, h⟩
  cases m with
  | zero => cases h
  | succ m =>
  replace h : f96s0_l0_b x1 x2 x3 x5 (f96s0_l0 x1 x2 x3 x5 m) (x4, x6, x7) = some out := h
  unfold f96s0_l0_b at h
  refine Run.regN hX [] 300 [0, 1, 4, 8, 9, 10] [1000000] ⟨[(0, (.sub 1000000 t130 x1 x2)), (1, (.d t96 x3)), (4, (.d t130 x4)), (8, (.d t2 x5)), (9, (.d t2 x6)), (10, (.d t4 (decide (x6 < x5))))], [(1000000, (.vec 130 t130 x7))]⟩ [] (by kernel_rfl) (by kernel_rfl) trivial ?_
  refine Run.seqN (by kernel_rfl) ?_
  refine Run.condN (decide (x6 < x5)) (by kernel_rfl) (fun hb => ?_) (fun hb => ?_)
  · replace h := bif_t h hb
    refine Run.skipN (by kernel_rfl) ?_
    show Run Pg 37 _ _ _
    refine Run.seqN (by kernel_rfl) ?_
    refine Run.blockN 1 (by kernel_rfl) ?_
    refine Run.regN hX [] 400 [0, 1, 4, 5, 8, 9] [1000000] ⟨[(0, (.sub 1000000 t130 x1 x2)), (1, (.d t96 x3)), (4, (.d t130 x4)), (5, (.d t2 x6)), (8, (.d t2 x5)), (9, (.d t2 x6))], [(1000000, (.vec 130 t130 x7))]⟩ [] (by kernel_rfl) (by kernel_rfl) trivial ?_
    obtain ⟨g_0, h⟩ := gd_elim h
    obtain ⟨g_1, h⟩ := gd_elim h
    obtain ⟨g_2, h⟩ := gd_elim h
    refine Run.regN hX [] 500 [0, 1, 5, 6, 8, 9] [1000000] ⟨[(0, (.sub 1000000 t130 x1 x2)), (1, (.d t96 x3)), (5, (.d t2 x6)), (6, (.d t130 (wrapI .u32 ((List.getD x7 (x1 + toN x6) (0 : Int)) + x4)))), (8, (.d t2 x5)), (9, (.d t2 x6))], [(1000000, (.vec 130 t130 x7))]⟩ [(0 ≤ x6), (x6 < ((x2 : Nat) : Int)), ((x1 + toN x6) < List.length x7)] (by kernel_rfl) (by kernel_rfl) ⟨g_0, g_1, g_2, trivial⟩ ?_
    refine Run.seqN (by kernel_rfl) ?_
    refine Run.regN hX [] 600 [0, 1, 5, 6, 8, 9, 21] [1000000] ⟨[(0, (.sub 1000000 t130 x1 x2)), (1, (.d t96 x3)), (5, (.d t2 x6)), (6, (.d t130 (wrapI .u32 ((List.getD x7 (x1 + toN x6) (0 : Int)) + x4)))), (8, (.d t2 x5)), (9, (.d t2 x6)), (21, (.d t4 (decide (x6 < (ofN (List.length x3))))))], [(1000000, (.vec 130 t130 x7))]⟩ [] (by kernel_rfl) (by kernel_rfl) trivial ?_
    obtain ⟨o35, h_o35, h⟩ := bnd_elim h
    refine Run.mono (f96s0_c1_ok x1 x2 x3 x6 (wrapI .u32 ((List.getD x7 (x1 + toN x6) (0 : Int)) + x4)) x5 (decide (x6 < (ofN (List.length x3)))) x7 h_o35) ?_
    rintro x s ⟨hx, hs⟩
    subst hx
    subst hs
    show Run Pg 37 _ _ _
    refine Run.regN hX [] 800 [0, 1, 4, 5, 6, 8, 9] [1000000] ⟨[(0, (.sub 1000000 t130 x1 x2)), (1, (.d t96 x3)), (4, (.d t130 (0 : Int))), (5, (.d t2 x6)), (6, (.d t130 o35)), (8, (.d t2 x5)), (9, (.d t2 x6))], [(1000000, (.vec 130 t130 x7))]⟩ [] (by kernel_rfl) (by kernel_rfl) trivial ?_
    refine Run.seqN (by kernel_rfl) ?_
    refine Run.regN hX [] 900 [0, 1, 4, 5, 6, 8, 9, 29] [1000000] ⟨[(0, (.sub 1000000 t130 x1 x2)), (1, (.d t96 x3)), (4, (.d t130 (0 : Int))), (5, (.d t2 x6)), (6, (.d t130 o35)), (8, (.d t2 x5)), (9, (.d t2 x6)), (29, (.d t4 (decide ((1000000000 : Int) ≤ o35))))], [(1000000, (.vec 130 t130 x7))]⟩ [] (by kernel_rfl) (by kernel_rfl) trivial ?_
    obtain ⟨o45, h_o45, h⟩ := bnd_elim h
    refine Run.mono (f96s0_c2_ok x1 x2 x3 (0 : Int) x6 o35 x5 (decide ((1000000000 : Int) ≤ o35)) x7 h_o45) ?_
    rintro x s ⟨hx, hs⟩
    subst hx
    subst hs
    show Run Pg 37 _ _ _
    obtain ⟨g_0, h⟩ := gd_elim h
    obtain ⟨g_1, h⟩ := gd_elim h
    obtain ⟨g_2, h⟩ := gd_elim h
    refine Run.regE hX [] 1100 [0, 1, 4, 8, 9] [1000000] ⟨[(0, (.sub 1000000 t130 x1 x2)), (1, (.d t96 x3)), (4, (.d t130 o45.1)), (8, (.d t2 x5)), (9, (.d t2 x6))], [(1000000, (.vec 130 t130 (List.set x7 (x1 + toN x6) o45.2)))]⟩ [(0 ≤ x6), (x6 < ((x2 : Nat) : Int)), ((x1 + toN x6) < List.length x7)] (by kernel_rfl) ⟨g_0, g_1, g_2, trivial⟩ ?_
    show Run Pg 37 _ _ _
    refine Run.regE hX [] 1200 [0, 1, 4, 8, 9] [1000000] ⟨[(0, (.sub 1000000 t130 x1 x2)), (1, (.d t96 x3)), (4, (.d t130 o45.1)), (8, (.d t2 x5)), (9, (.d t2 (wrapI .i64 (x6 + (1 : Int)))))], [(1000000, (.vec 130 t130 (List.set x7 (x1 + toN x6) o45.2)))]⟩ [] (by kernel_rfl) trivial ?_
    exact ⟨m, Nat.lt_succ_self m, _, _, _, rfl, h⟩
  · replace h := bif_f h hb
    refine Run.keep (s' := ⟨[], [(1000000, (.vec 130 t130 x7))]⟩) [] [1000000] (by kernel_rfl) ?_
    refine Run.exitN 0 (by kernel_rfl) ?_
    replace h := Option.some.inj h
    subst h
    exact ⟨rfl, by kernel_rfl⟩

def F96s0 (a0 : Nat) (a1 : Nat) (a2 : List Int) (a3 : List Int) : Option ((List Int)) :=
  ((f96s0_l0 a0 a1 a2 (ofN a1) (2 + List.length a2 + List.length a3) ((0 : Int), (0 : Int), a3)).bind fun o46 =>
    some o46)

theorem c96s0 {a0 : Nat} {a1 : Nat} {a2 : List Int} {a3 : List Int} {r : (List Int)} (h : F96s0 a0 a1 a2 a3 = some r) : CallSt Pg 96 [(.sub 1000000 t130 a0 a1), (.d t96 a2)] [(1000000, (.vec 130 t130 a3))] (.tup .vnil) [(1000000, (.vec 130 t130 r))] := by
  refine callStN hX c_96 37 [] [] Go.Proofs.Try.func96 (by kernel_rfl) (by kernel_rfl) (by kernel_rfl) (Nat.le_of_ble_eq_true rfl) rfl ?_
  show Run Pg 37 c_96 ⟨[(0, (.sub 1000000 t130 a0 a1)), (1, (.d t96 a2))], [(1000000, (.vec 130 t130 a3))]⟩ (fin96s0 a3 r)
  unfold F96s0 at h
  refine Run.regN hX [] 100 [0, 1, 4] [1000000] ⟨[(0, (.sub 1000000 t130 a0 a1)), (1, (.d t96 a2)), (4, (.d t130 (0 : Int)))], [(1000000, (.vec 130 t130 a3))]⟩ [] (by kernel_rfl) (by kernel_rfl) trivial ?_
  refine Run.regN hX [] 200 [0, 1, 4, 8, 9] [1000000] ⟨[(0, (.sub 1000000 t130 a0 a1)), (1, (.d t96 a2)), (4, (.d t130 (0 : Int))), (8, (.d t2 (ofN a1))), (9, (.d t2 (0 : Int)))], [(1000000, (.vec 130 t130 a3))]⟩ [] (by kernel_rfl) (by kernel_rfl) trivial ?_
  refine Run.blockN 0 (by kernel_rfl) ?_
  obtain ⟨o46, h_o46, h⟩ := bnd_elim h
  refine Run.mono (f96s0_l0_ok a0 a1 a2 (ofN a1) _ (0 : Int) (0 : Int) a3 h_o46) ?_
  rintro x s ⟨hx, hs⟩
  subst hx
  subst hs
  replace h := Option.some.inj h
  subst h
  exact ⟨[], ⟨[], [(1000000, (.vec 130 t130 o46))]⟩, by kernel_rfl, by kernel_rfl, by kernel_rfl, by kernel_rfl⟩

/-! ## f88 -/

noncomputable def c_88 : Code := body0 Go.Proofs.Try.f88

def fin88 (r : (List Int) × (List Int)) : Ex → St → Prop := endK X0 [.tmp 4, .tmp 5] [96, 96] (.tup (.vcons (.d t96 r.1) (.vcons (.d t96 r.2) .vnil)))

def f88_l1_post (x35 : Int) (x36 : Int) (x37 : List Int) (x38 : Int) (x41 : List Int) (x42 : List Int) : (Int) → Ex → St → Prop
  | o, x, s => x = .out 2 ∧ s = ⟨[(6, (.d t2 x35)), (7, (.d t130 x36)), (8, (.vec 903 t130)), (9, (.d t96 x37)), (10, (.vec 1104 t130)), (11, (.d t2 x38)), (13, (.d t12 o))], [(903, (.vec 130 t130 x41)), (1104, (.vec 130 t130 x42))]⟩

def f88_l1_b (x35 : Int) (x37 : List Int) (x38 : Int) (x41 : List Int) (again : Int × Int → Option (Int)) : Int × Int → Option (Int)
  | (x39, x40) =>
    (bif (decide ((1000000000 : Int) ≤ x39)) then
      gd (0 ≤ (wrapI .i64 (x35 - (1 : Int)))) <|
      gd ((wrapI .i64 (x35 - (1 : Int))) < ((List.length x37 : Nat) : Int)) <|
      (bif (decide ((1000000000 : Int) ≤ (wrapI .u64 (x40 + (wrapI .u64 (List.getD x37 (toN (wrapI .i64 (x35 - (1 : Int)))) (0 : Int))))))) then
        some (wrapI .u64 (x39 - (1 : Int)))
      else
        again ((wrapI .u64 (x39 - (1 : Int))), (wrapI .u64 (x40 + (wrapI .u64 (List.getD x37 (toN (wrapI .i64 (x35 - (1 : Int)))) (0 : Int)))))))
    else
      gd (0 ≤ (wrapI .i64 (x35 - (2 : Int)))) <|
      gd ((wrapI .i64 (x35 - (2 : Int))) < ((List.length x37 : Nat) : Int)) <|
      gd (0 ≤ (wrapI .i64 ((wrapI .i64 (x38 + x35)) - (2 : Int)))) <|
      gd ((wrapI .i64 ((wrapI .i64 (x38 + x35)) - (2 : Int))) < ((List.length x41 : Nat) : Int)) <|
      gd ((toN (wrapI .i64 ((wrapI .i64 (x38 + x35)) - (2 : Int)))) < List.length x41) <|
      (bif (decide ((wrapI .u64 ((wrapI .u64 (x40 * (1000000000 : Int))) + (wrapI .u64 (List.getD x41 (toN (wrapI .i64 ((wrapI .i64 (x38 + x35)) - (2 : Int)))) (0 : Int))))) < (wrapI .u64 (x39 * (wrapI .u64 (List.getD x37 (toN (wrapI .i64 (x35 - (2 : Int)))) (0 : Int))))))) then
        gd (0 ≤ (wrapI .i64 (x35 - (1 : Int)))) <|
        gd ((wrapI .i64 (x35 - (1 : Int))) < ((List.length x37 : Nat) : Int)) <|
        (bif (decide ((1000000000 : Int) ≤ (wrapI .u64 (x40 + (wrapI .u64 (List.getD x37 (toN (wrapI .i64 (x35 - (1 : Int)))) (0 : Int))))))) then
          some (wrapI .u64 (x39 - (1 : Int)))
        else
          again ((wrapI .u64 (x39 - (1 : Int))), (wrapI .u64 (x40 + (wrapI .u64 (List.getD x37 (toN (wrapI .i64 (x35 - (1 : Int)))) (0 : Int)))))))
      else
        some x39))

def f88_l1 (x35 : Int) (x37 : List Int) (x38 : Int) (x41 : List Int) : Nat → Int × Int → Option (Int) := loopF (f88_l1_b x35 x37 x38 x41)

theorem f88_l1_ok (x35 : Int) (x36 : Int) (x37 : List Int) (x38 : Int) (x41 : List Int) (x42 : List Int) (k : Nat) (x39 : Int) (x40 : Int) {out : (Int)} (h : f88_l1 x35 x37 x38 x41 k (x39, x40) = some out) : Run Pg 179 (bk1 (sq1 (sq2 (sq2 (bk1 (sq1 (sq2 (lp1 (bk1 (sq2 (sq1 (sq2 (sq2 (sq2 (sq2 (sq2 (sq2 (sq2 (sq2 (sq2 c_88)))))))))))))))))))) ⟨[(6, (.d t2 x35)), (7, (.d t130 x36)), (8, (.vec 903 t130)), (9, (.d t96 x37)), (10, (.vec 1104 t130)), (11, (.d t2 x38)), (13, (.d t12 x39)), (14, (.d t12 x40))], [(903, (.vec 130 t130 x41)), (1104, (.vec 130 t130 x42))]⟩ (f88_l1_post x35 x36 x37 x38 x41 x42 out) := by
  refine Run.loopN (by kernel_rfl) (fun m s => ∃ x39 x40, s = ⟨[(6, (.d t2 x35)), (7, (.d t130 x36)), (8, (.vec 903 t130)), (9, (.d t96 x37)), (10, (.vec 1104 t130)), (11, (.d t2 x38)), (13, (.d t12 x39)), (14, (.d t12 x40))], [(903, (.vec 130 t130 x41)), (1104, (.vec 130 t130 x42))]⟩ ∧ f88_l1 x35 x37 x38 x41 m (x39, x40) = some out) ?_ k ⟨x39, x40,  rfl, h⟩
  rintro m s ⟨x39, x40,  rfl, h⟩
  cases m with
  | zero => cases h
  | succ m =>
  replace h : f88_l1_b x35 x37 x38 x41 (f88_l1 x35 x37 x38 x41 m) (x39, x40) = some out := h
  unfold f88_l1_b at h
  refine Run.seqN (by kernel_rfl) ?_
  rcases bif_elim h with ⟨hb0, h⟩ | ⟨hb0, h⟩
  · refine Run.regN hX [(2, .b true)] 1700 [6, 7, 8, 9, 10, 11, 13, 14, 129] [903, 1104] ⟨[(6, (.d t2 x35)), (7, (.d t130 x36)), (8, (.vec 903 t130)), (9, (.d t96 x37)), (10, (.vec 1104 t130)), (11, (.d t2 x38)), (13, (.d t12 x39)), (14, (.d t12 x40)), (129, (.d t4 true))], [(903, (.vec 130 t130 x41)), (1104, (.vec 130 t130 x42))]⟩ [(decide ((1000000000 : Int) ≤ x39)) = true] (by kernel_rfl) (by kernel_rfl) ⟨hb0, trivial⟩ ?_
    refine Run.condN true (by kernel_rfl) (fun hb => ?_) (fun hb => (by cases hb))
    refine Run.skipN (by kernel_rfl) ?_
    show Run Pg 179 _ _ _
    refine Run.blockN 3 (by kernel_rfl) ?_
    refine Run.regN hX [] 1800 [6, 7, 8, 9, 10, 11, 13, 14] [903, 1104] ⟨[(6, (.d t2 x35)), (7, (.d t130 x36)), (8, (.vec 903 t130)), (9, (.d t96 x37)), (10, (.vec 1104 t130)), (11, (.d t2 x38)), (13, (.d t12 (wrapI .u64 (x39 - (1 : Int))))), (14, (.d t12 x40))], [(903, (.vec 130 t130 x41)), (1104, (.vec 130 t130 x42))]⟩ [] (by kernel_rfl) (by kernel_rfl) trivial ?_
    obtain ⟨g_0, h⟩ := gd_elim h
    obtain ⟨g_1, h⟩ := gd_elim h
    refine Run.regN hX [] 1900 [6, 7, 8, 9, 10, 11, 13, 14] [903, 1104] ⟨[(6, (.d t2 x35)), (7, (.d t130 x36)), (8, (.vec 903 t130)), (9, (.d t96 x37)), (10, (.vec 1104 t130)), (11, (.d t2 x38)), (13, (.d t12 (wrapI .u64 (x39 - (1 : Int))))), (14, (.d t12 (wrapI .u64 (x40 + (wrapI .u64 (List.getD x37 (toN (wrapI .i64 (x35 - (1 : Int)))) (0 : Int)))))))], [(903, (.vec 130 t130 x41)), (1104, (.vec 130 t130 x42))]⟩ [(0 ≤ (wrapI .i64 (x35 - (1 : Int)))), ((wrapI .i64 (x35 - (1 : Int))) < ((List.length x37 : Nat) : Int))] (by kernel_rfl) (by kernel_rfl) ⟨g_0, g_1, trivial⟩ ?_
    refine Run.regN hX [] 2000 [6, 7, 8, 9, 10, 11, 13, 14, 141] [903, 1104] ⟨[(6, (.d t2 x35)), (7, (.d t130 x36)), (8, (.vec 903 t130)), (9, (.d t96 x37)), (10, (.vec 1104 t130)), (11, (.d t2 x38)), (13, (.d t12 (wrapI .u64 (x39 - (1 : Int))))), (14, (.d t12 (wrapI .u64 (x40 + (wrapI .u64 (List.getD x37 (toN (wrapI .i64 (x35 - (1 : Int)))) (0 : Int))))))), (141, (.d t4 (decide ((1000000000 : Int) ≤ (wrapI .u64 (x40 + (wrapI .u64 (List.getD x37 (toN (wrapI .i64 (x35 - (1 : Int)))) (0 : Int)))))))))], [(903, (.vec 130 t130 x41)), (1104, (.vec 130 t130 x42))]⟩ [] (by kernel_rfl) (by kernel_rfl) trivial ?_
    refine Run.condN (decide ((1000000000 : Int) ≤ (wrapI .u64 (x40 + (wrapI .u64 (List.getD x37 (toN (wrapI .i64 (x35 - (1 : Int)))) (0 : Int))))))) (by kernel_rfl) (fun hb => ?_) (fun hb => ?_)
    · replace h := bif_t h hb
      refine Run.keep (s' := ⟨[(6, (.d t2 x35)), (7, (.d t130 x36)), (8, (.vec 903 t130)), (9, (.d t96 x37)), (10, (.vec 1104 t130)), (11, (.d t2 x38)), (13, (.d t12 (wrapI .u64 (x39 - (1 : Int)))))], [(903, (.vec 130 t130 x41)), (1104, (.vec 130 t130 x42))]⟩) [6, 7, 8, 9, 10, 11, 13] [903, 1104] (by kernel_rfl) ?_
      refine Run.exitN 2 (by kernel_rfl) ?_
      replace h := Option.some.inj h
      subst h
      exact ⟨rfl, by kernel_rfl⟩
    · replace h := bif_f h hb
      refine Run.keep (s' := ⟨[(6, (.d t2 x35)), (7, (.d t130 x36)), (8, (.vec 903 t130)), (9, (.d t96 x37)), (10, (.vec 1104 t130)), (11, (.d t2 x38)), (13, (.d t12 (wrapI .u64 (x39 - (1 : Int))))), (14, (.d t12 (wrapI .u64 (x40 + (wrapI .u64 (List.getD x37 (toN (wrapI .i64 (x35 - (1 : Int)))) (0 : Int)))))))], [(903, (.vec 130 t130 x41)), (1104, (.vec 130 t130 x42))]⟩) [6, 7, 8, 9, 10, 11, 13, 14] [903, 1104] (by kernel_rfl) ?_
      refine Run.skipN (by kernel_rfl) ?_
      exact ⟨m, Nat.lt_succ_self m, _, _, rfl, h⟩
  · obtain ⟨g_1, h⟩ := gd_elim h
    obtain ⟨g_2, h⟩ := gd_elim h
    obtain ⟨g_3, h⟩ := gd_elim h
    obtain ⟨g_4, h⟩ := gd_elim h
    obtain ⟨g_5, h⟩ := gd_elim h
    refine Run.regN hX [(2, .b false)] 1700 [6, 7, 8, 9, 10, 11, 13, 14, 129] [903, 1104] ⟨[(6, (.d t2 x35)), (7, (.d t130 x36)), (8, (.vec 903 t130)), (9, (.d t96 x37)), (10, (.vec 1104 t130)), (11, (.d t2 x38)), (13, (.d t12 x39)), (14, (.d t12 x40)), (129, (.d t4 (decide ((wrapI .u64 ((wrapI .u64 (x40 * (1000000000 : Int))) + (wrapI .u64 (List.getD x41 (toN (wrapI .i64 ((wrapI .i64 (x38 + x35)) - (2 : Int)))) (0 : Int))))) < (wrapI .u64 (x39 * (wrapI .u64 (List.getD x37 (toN (wrapI .i64 (x35 - (2 : Int)))) (0 : Int)))))))))], [(903, (.vec 130 t130 x41)), (1104, (.vec 130 t130 x42))]⟩ [(decide ((1000000000 : Int) ≤ x39)) = false, (0 ≤ (wrapI .i64 (x35 - (2 : Int)))), ((wrapI .i64 (x35 - (2 : Int))) < ((List.length x37 : Nat) : Int)), (0 ≤ (wrapI .i64 ((wrapI .i64 (x38 + x35)) - (2 : Int)))), ((wrapI .i64 ((wrapI .i64 (x38 + x35)) - (2 : Int))) < ((List.length x41 : Nat) : Int)), ((toN (wrapI .i64 ((wrapI .i64 (x38 + x35)) - (2 : Int)))) < List.length x41)] (by kernel_rfl) (by kernel_rfl) ⟨hb0, g_1, g_2, g_3, g_4, g_5, trivial⟩ ?_
    refine Run.condN (decide ((wrapI .u64 ((wrapI .u64 (x40 * (1000000000 : Int))) + (wrapI .u64 (List.getD x41 (toN (wrapI .i64 ((wrapI .i64 (x38 + x35)) - (2 : Int)))) (0 : Int))))) < (wrapI .u64 (x39 * (wrapI .u64 (List.getD x37 (toN (wrapI .i64 (x35 - (2 : Int)))) (0 : Int))))))) (by kernel_rfl) (fun hb => ?_) (fun hb => ?_)
    · replace h := bif_t h hb
      refine Run.skipN (by kernel_rfl) ?_
      show Run Pg 179 _ _ _
      refine Run.blockN 3 (by kernel_rfl) ?_
      refine Run.regN hX [] 1800 [6, 7, 8, 9, 10, 11, 13, 14] [903, 1104] ⟨[(6, (.d t2 x35)), (7, (.d t130 x36)), (8, (.vec 903 t130)), (9, (.d t96 x37)), (10, (.vec 1104 t130)), (11, (.d t2 x38)), (13, (.d t12 (wrapI .u64 (x39 - (1 : Int))))), (14, (.d t12 x40))], [(903, (.vec 130 t130 x41)), (1104, (.vec 130 t130 x42))]⟩ [] (by kernel_rfl) (by kernel_rfl) trivial ?_
      obtain ⟨g_0, h⟩ := gd_elim h
      obtain ⟨g_1, h⟩ := gd_elim h
      refine Run.regN hX [] 1900 [6, 7, 8, 9, 10, 11, 13, 14] [903, 1104] ⟨[(6, (.d t2 x35)), (7, (.d t130 x36)), (8, (.vec 903 t130)), (9, (.d t96 x37)), (10, (.vec 1104 t130)), (11, (.d t2 x38)), (13, (.d t12 (wrapI .u64 (x39 - (1 : Int))))), (14, (.d t12 (wrapI .u64 (x40 + (wrapI .u64 (List.getD x37 (toN (wrapI .i64 (x35 - (1 : Int)))) (0 : Int)))))))], [(903, (.vec 130 t130 x41)), (1104, (.vec 130 t130 x42))]⟩ [(0 ≤ (wrapI .i64 (x35 - (1 : Int)))), ((wrapI .i64 (x35 - (1 : Int))) < ((List.length x37 : Nat) : Int))] (by kernel_rfl) (by kernel_rfl) ⟨g_0, g_1, trivial⟩ ?_
      refine Run.regN hX [] 2000 [6, 7, 8, 9, 10, 11, 13, 14, 141] [903, 1104] ⟨[(6, (.d t2 x35)), (7, (.d t130 x36)), (8, (.vec 903 t130)), (9, (.d t96 x37)), (10, (.vec 1104 t130)), (11, (.d t2 x38)), (13, (.d t12 (wrapI .u64 (x39 - (1 : Int))))), (14, (.d t12 (wrapI .u64 (x40 + (wrapI .u64 (List.getD x37 (toN (wrapI .i64 (x35 - (1 : Int)))) (0 : Int))))))), (141, (.d t4 (decide ((1000000000 : Int) ≤ (wrapI .u64 (x40 + (wrapI .u64 (List.getD x37 (toN (wrapI .i64 (x35 - (1 : Int)))) (0 : Int)))))))))], [(903, (.vec 130 t130 x41)), (1104, (.vec 130 t130 x42))]⟩ [] (by kernel_rfl) (by kernel_rfl) trivial ?_
      refine Run.condN (decide ((1000000000 : Int) ≤ (wrapI .u64 (x40 + (wrapI .u64 (List.getD x37 (toN (wrapI .i64 (x35 - (1 : Int)))) (0 : Int))))))) (by kernel_rfl) (fun hb => ?_) (fun hb => ?_)
      · replace h := bif_t h hb
        refine Run.keep (s' := ⟨[(6, (.d t2 x35)), (7, (.d t130 x36)), (8, (.vec 903 t130)), (9, (.d t96 x37)), (10, (.vec 1104 t130)), (11, (.d t2 x38)), (13, (.d t12 (wrapI .u64 (x39 - (1 : Int)))))], [(903, (.vec 130 t130 x41)), (1104, (.vec 130 t130 x42))]⟩) [6, 7, 8, 9, 10, 11, 13] [903, 1104] (by kernel_rfl) ?_
        refine Run.exitN 2 (by kernel_rfl) ?_
        replace h := Option.some.inj h
        subst h
        exact ⟨rfl, by kernel_rfl⟩
      · replace h := bif_f h hb
        refine Run.keep (s' := ⟨[(6, (.d t2 x35)), (7, (.d t130 x36)), (8, (.vec 903 t130)), (9, (.d t96 x37)), (10, (.vec 1104 t130)), (11, (.d t2 x38)), (13, (.d t12 (wrapI .u64 (x39 - (1 : Int))))), (14, (.d t12 (wrapI .u64 (x40 + (wrapI .u64 (List.getD x37 (toN (wrapI .i64 (x35 - (1 : Int)))) (0 : Int)))))))], [(903, (.vec 130 t130 x41)), (1104, (.vec 130 t130 x42))]⟩) [6, 7, 8, 9, 10, 11, 13, 14] [903, 1104] (by kernel_rfl) ?_
        refine Run.skipN (by kernel_rfl) ?_
        exact ⟨m, Nat.lt_succ_self m, _, _, rfl, h⟩
    · replace h := bif_f h hb
      refine Run.keep (s' := ⟨[(6, (.d t2 x35)), (7, (.d t130 x36)), (8, (.vec 903 t130)), (9, (.d t96 x37)), (10, (.vec 1104 t130)), (11, (.d t2 x38)), (13, (.d t12 x39))], [(903, (.vec 130 t130 x41)), (1104, (.vec 130 t130 x42))]⟩) [6, 7, 8, 9, 10, 11, 13] [903, 1104] (by kernel_rfl) ?_
      refine Run.exitN 2 (by kernel_rfl) ?_
      replace h := Option.some.inj h
      subst h
      exact ⟨rfl, by kernel_rfl⟩

def f88_c2_post (x45 : Int) (x46 : Int) (x47 : List Int) (x48 : Int) (x49 : Int) (x50 : Bool) (x51 : List Int) (x52 : List Int) : (Int × (List Int)) → Ex → St → Prop
  | o, x, s => x = .nrm ∧ s = ⟨[(6, (.d t2 x45)), (7, (.d t130 x46)), (8, (.vec 903 t130)), (9, (.d t96 x47)), (10, (.vec 1104 t130)), (11, (.d t2 x48)), (13, (.d t12 o.1))], [(903, (.vec 130 t130 o.2)), (1104, (.vec 130 t130 x52))]⟩

def f88_c2 (x45 : Int) (x47 : List Int) (x48 : Int) (x49 : Int) (x50 : Bool) (x51 : List Int) : Option (Int × (List Int)) :=
  (bif x50 then
    gd (0 < List.length x51) <|
    gd (0 ≤ x48) <|
    gd (x48 ≤ (wrapI .i64 ((wrapI .i64 (x48 + x45)) + (1 : Int)))) <|
    gd ((wrapI .i64 ((wrapI .i64 (x48 + x45)) + (1 : Int))) ≤ ((List.length x51 : Nat) : Int)) <|
    (F96s0 (Int.toNat x48) ((Int.toNat (wrapI .i64 ((wrapI .i64 (x48 + x45)) + (1 : Int)))) - (Int.toNat x48)) x47 x51).bind fun y54 =>
    some ((wrapI .u64 (x49 - (1 : Int))), y54)
  else
    some (x49, x51))

theorem f88_c2_ok (x45 : Int) (x46 : Int) (x47 : List Int) (x48 : Int) (x49 : Int) (x50 : Bool) (x51 : List Int) (x52 : List Int) {out : (Int × (List Int))} (h : f88_c2 x45 x47 x48 x49 x50 x51 = some out) : Run Pg 179 (sq2 (sq1 (sq2 (sq2 (sq2 (bk1 (sq1 (sq2 (lp1 (bk1 (sq2 (sq1 (sq2 (sq2 (sq2 (sq2 (sq2 (sq2 (sq2 (sq2 (sq2 c_88))))))))))))))))))))) ⟨[(6, (.d t2 x45)), (7, (.d t130 x46)), (8, (.vec 903 t130)), (9, (.d t96 x47)), (10, (.vec 1104 t130)), (11, (.d t2 x48)), (13, (.d t12 x49)), (151, (.d t4 x50))], [(903, (.vec 130 t130 x51)), (1104, (.vec 130 t130 x52))]⟩ (f88_c2_post x45 x46 x47 x48 x49 x50 x51 x52 out) := by
  unfold f88_c2 at h
  refine Run.condN x50 (by kernel_rfl) (fun hb => ?_) (fun hb => ?_)
  · replace h := bif_t h hb
    refine Run.regN hX [] 2200 [6, 7, 8, 9, 10, 11, 13] [903, 1104] ⟨[(6, (.d t2 x45)), (7, (.d t130 x46)), (8, (.vec 903 t130)), (9, (.d t96 x47)), (10, (.vec 1104 t130)), (11, (.d t2 x48)), (13, (.d t12 (wrapI .u64 (x49 - (1 : Int)))))], [(903, (.vec 130 t130 x51)), (1104, (.vec 130 t130 x52))]⟩ [] (by kernel_rfl) (by kernel_rfl) trivial ?_
    obtain ⟨g_0, h⟩ := gd_elim h
    obtain ⟨g_1, h⟩ := gd_elim h
    obtain ⟨g_2, h⟩ := gd_elim h
    obtain ⟨g_3, h⟩ := gd_elim h
    obtain ⟨y54, h_y54, h⟩ := bnd_elim h
    refine Run.regE hX [(8, .callS [(1000000, (.vec 130 t130 x51))] [(.sub 1000000 t130 (Int.toNat x48) ((Int.toNat (wrapI .i64 ((wrapI .i64 (x48 + x45)) + (1 : Int)))) - (Int.toNat x48))), (.d t96 x47)] [(1000000, 903)] (.tup .vnil) [(1000000, (.vec 130 t130 y54))])] 2300 [6, 7, 8, 9, 10, 11, 13] [903, 1104] ⟨[(6, (.d t2 x45)), (7, (.d t130 x46)), (8, (.vec 903 t130)), (9, (.d t96 x47)), (10, (.vec 1104 t130)), (11, (.d t2 x48)), (13, (.d t12 (wrapI .u64 (x49 - (1 : Int)))))], [(903, (.vec 130 t130 y54)), (1104, (.vec 130 t130 x52))]⟩ [(0 < List.length x51), (0 ≤ x48), (x48 ≤ (wrapI .i64 ((wrapI .i64 (x48 + x45)) + (1 : Int)))), ((wrapI .i64 ((wrapI .i64 (x48 + x45)) + (1 : Int))) ≤ ((List.length x51 : Nat) : Int)), (([(.sub 903 t130 (Int.toNat x48) ((Int.toNat (wrapI .i64 ((wrapI .i64 (x48 + x45)) + (1 : Int)))) - (Int.toNat x48))), (.d t96 x47)] : List V) = List.map (V.ren (renL [(1000000, 903)] 2308)) [(.sub 1000000 t130 (Int.toNat x48) ((Int.toNat (wrapI .i64 ((wrapI .i64 (x48 + x45)) + (1 : Int)))) - (Int.toNat x48))), (.d t96 x47)]), CallSt Pg 96 [(.sub 1000000 t130 (Int.toNat x48) ((Int.toNat (wrapI .i64 ((wrapI .i64 (x48 + x45)) + (1 : Int)))) - (Int.toNat x48))), (.d t96 x47)] [(1000000, (.vec 130 t130 x51))] (.tup .vnil) [(1000000, (.vec 130 t130 y54))], ((some (.vec 130 t130 x51) : Option E) = some (E.ren (renL [(1000000, 903)] 2308) (.vec 130 t130 x51)))] (by kernel_rfl) ⟨g_0, g_1, g_2, g_3, (by kernel_rfl), (c96s0 h_y54), (by kernel_rfl), trivial⟩ ?_
    replace h := Option.some.inj h
    subst h
    exact ⟨rfl, by kernel_rfl⟩
  · replace h := bif_f h hb
    refine Run.keep (s' := ⟨[(6, (.d t2 x45)), (7, (.d t130 x46)), (8, (.vec 903 t130)), (9, (.d t96 x47)), (10, (.vec 1104 t130)), (11, (.d t2 x48)), (13, (.d t12 x49))], [(903, (.vec 130 t130 x51)), (1104, (.vec 130 t130 x52))]⟩) [6, 7, 8, 9, 10, 11, 13] [903, 1104] (by kernel_rfl) ?_
    refine Run.skipN (by kernel_rfl) ?_
    replace h := Option.some.inj h
    subst h
    exact ⟨rfl, by kernel_rfl⟩

def f88_l0_post (x8 : Int) (x9 : Int) (x10 : List Int) : ((List Int) × (List Int)) → Ex → St → Prop
  | o, x, s => x = .out 0 ∧ s = ⟨[(6, (.d t2 x8)), (7, (.d t130 x9)), (8, (.vec 903 t130)), (10, (.vec 1104 t130))], [(903, (.vec 130 t130 o.1)), (1104, (.vec 130 t130 o.2))]⟩

def f88_l0_b (x8 : Int) (x10 : List Int) (again : Int × (List Int) × (List Int) → Option ((List Int) × (List Int))) : Int × (List Int) × (List Int) → Option ((List Int) × (List Int))
  | (x11, x12, x13) =>
    (bif (decide ((0 : Int) ≤ x11)) then
      gd (0 ≤ (wrapI .i64 (x11 + x8))) <|
      gd ((wrapI .i64 (x11 + x8)) < ((List.length x12 : Nat) : Int)) <|
      gd ((toN (wrapI .i64 (x11 + x8))) < List.length x12) <|
      gd (0 ≤ (wrapI .i64 ((wrapI .i64 (x11 + x8)) - (1 : Int)))) <|
      gd ((wrapI .i64 ((wrapI .i64 (x11 + x8)) - (1 : Int))) < ((List.length x12 : Nat) : Int)) <|
      gd ((toN (wrapI .i64 ((wrapI .i64 (x11 + x8)) - (1 : Int)))) < List.length x12) <|
      gd (0 ≤ (wrapI .i64 (x8 - (1 : Int)))) <|
      gd ((wrapI .i64 (x8 - (1 : Int))) < ((List.length x10 : Nat) : Int)) <|
      gd ((wrapI .u64 (List.getD x10 (toN (wrapI .i64 (x8 - (1 : Int)))) (0 : Int))) ≠ 0) <|
      gd (0 ≤ (wrapI .i64 (x8 - (1 : Int)))) <|
      gd ((wrapI .i64 (x8 - (1 : Int))) < ((List.length x10 : Nat) : Int)) <|
      gd ((wrapI .u64 (List.getD x10 (toN (wrapI .i64 (x8 - (1 : Int)))) (0 : Int))) ≠ 0) <|
      ((f88_l1 x8 x10 x11 x12 (2 + List.length x10 + List.length x12 + List.length x13) ((wrapI .u64 (Int.tdiv (wrapI .u64 ((wrapI .u64 ((wrapI .u64 (List.getD x12 (toN (wrapI .i64 (x11 + x8))) (0 : Int))) * (1000000000 : Int))) + (wrapI .u64 (List.getD x12 (toN (wrapI .i64 ((wrapI .i64 (x11 + x8)) - (1 : Int)))) (0 : Int))))) (wrapI .u64 (List.getD x10 (toN (wrapI .i64 (x8 - (1 : Int)))) (0 : Int))))), (Int.tmod (wrapI .u64 ((wrapI .u64 ((wrapI .u64 (List.getD x12 (toN (wrapI .i64 (x11 + x8))) (0 : Int))) * (1000000000 : Int))) + (wrapI .u64 (List.getD x12 (toN (wrapI .i64 ((wrapI .i64 (x11 + x8)) - (1 : Int)))) (0 : Int))))) (wrapI .u64 (List.getD x10 (toN (wrapI .i64 (x8 - (1 : Int)))) (0 : Int)))))).bind fun o43 =>
        gd (0 < List.length x12) <|
        gd (0 ≤ x11) <|
        gd (x11 ≤ (wrapI .i64 ((wrapI .i64 (x11 + x8)) + (1 : Int)))) <|
        gd ((wrapI .i64 ((wrapI .i64 (x11 + x8)) + (1 : Int))) ≤ ((List.length x12 : Nat) : Int)) <|
        (F95s0 (Int.toNat x11) ((Int.toNat (wrapI .i64 ((wrapI .i64 (x11 + x8)) + (1 : Int)))) - (Int.toNat x11)) x10 o43 x12).bind fun y44 =>
        ((f88_c2 x8 x10 x11 o43 y44.1 y44.2).bind fun o55 =>
          gd (0 ≤ x11) <|
          gd (x11 < ((List.length x13 : Nat) : Int)) <|
          gd ((toN x11) < List.length x13) <|
          again ((wrapI .i64 (x11 - (1 : Int))), o55.2, (List.set x13 (toN x11) (wrapI .u32 o55.1)))))
    else
      some (x12, x13))

def f88_l0 (x8 : Int) (x10 : List Int) : Nat → Int × (List Int) × (List Int) → Option ((List Int) × (List Int)) := loopF (f88_l0_b x8 x10)

theorem f88_l0_ok (x8 : Int) (x9 : Int) (x10 : List Int) (k : Nat) (x11 : Int) (x12 : List Int) (x13 : List Int) {out : ((List Int) × (List Int))} (h : f88_l0 x8 x10 k (x11, x12, x13) = some out) : Run Pg 179 (bk1 (sq2 (sq1 (sq2 (sq2 (sq2 (sq2 (sq2 (sq2 (sq2 (sq2 (sq2 c_88)))))))))))) ⟨[(6, (.d t2 x8)), (7, (.d t130 x9)), (8, (.vec 903 t130)), (9, (.d t96 x10)), (10, (.vec 1104 t130)), (11, (.d t2 x11))], [(903, (.vec 130 t130 x12)), (1104, (.vec 130 t130 x13))]⟩ (f88_l0_post x8 x9 x10 out) := by
  refine Run.loopN (by kernel_rfl) (fun m s => ∃ x11 x12 x13, s = ⟨[(6, (.d t2 x8)), (7, (.d t130 x9)), (8, (.vec 903 t130)), (9, (.d t96 x10)), (10, (.vec 1104 t130)), (11, (.d t2 x11))], [(903, (.vec 130 t130 x12)), (1104, (.vec 130 t130 x13))]⟩ ∧ f88_l0 x8 x10 m (x11, x12, x13) = some out) ?_ k ⟨x11, x12, x13,  rfl, h⟩
  rintro m s ⟨x11, x12, x13,  rfl, h⟩
  cases m with
  | zero => cases h
  | succ m =>
  replace h : f88_l0_b x8 x10 (f88_l0 x8 x10 m) (x11, x12, x13) = some out := h
  unfold f88_l0_b at h
  refine Run.seqN (by kernel_rfl) ?_
  refine Run.regN hX [] 1300 [6, 7, 8, 9, 10, 11, 70] [903, 1104] ⟨[(6, (.d t2 x8)), (7, (.d t130 x9)), (8, (.vec 903 t130)), (9, (.d t96 x10)), (10, (.vec 1104 t130)), (11, (.d t2 x11)), (70, (.d t4 (decide ((0 : Int) ≤ x11))))], [(903, (.vec 130 t130 x12)), (1104, (.vec 130 t130 x13))]⟩ [] (by kernel_rfl) (by kernel_rfl) trivial ?_
  refine Run.condN (decide ((0 : Int) ≤ x11)) (by kernel_rfl) (fun hb => ?_) (fun hb => ?_)
  · replace h := bif_t h hb
    refine Run.skipN (by kernel_rfl) ?_
    show Run Pg 179 _ _ _
    refine Run.seqN (by kernel_rfl) ?_
    refine Run.blockN 1 (by kernel_rfl) ?_
    obtain ⟨g_0, h⟩ := gd_elim h
    obtain ⟨g_1, h⟩ := gd_elim h
    obtain ⟨g_2, h⟩ := gd_elim h
    obtain ⟨g_3, h⟩ := gd_elim h
    obtain ⟨g_4, h⟩ := gd_elim h
    obtain ⟨g_5, h⟩ := gd_elim h
    refine Run.regN hX [] 1500 [6, 7, 8, 9, 10, 11, 12] [903, 1104] ⟨[(6, (.d t2 x8)), (7, (.d t130 x9)), (8, (.vec 903 t130)), (9, (.d t96 x10)), (10, (.vec 1104 t130)), (11, (.d t2 x11)), (12, (.d t12 (wrapI .u64 ((wrapI .u64 ((wrapI .u64 (List.getD x12 (toN (wrapI .i64 (x11 + x8))) (0 : Int))) * (1000000000 : Int))) + (wrapI .u64 (List.getD x12 (toN (wrapI .i64 ((wrapI .i64 (x11 + x8)) - (1 : Int)))) (0 : Int)))))))], [(903, (.vec 130 t130 x12)), (1104, (.vec 130 t130 x13))]⟩ [(0 ≤ (wrapI .i64 (x11 + x8))), ((wrapI .i64 (x11 + x8)) < ((List.length x12 : Nat) : Int)), ((toN (wrapI .i64 (x11 + x8))) < List.length x12), (0 ≤ (wrapI .i64 ((wrapI .i64 (x11 + x8)) - (1 : Int)))), ((wrapI .i64 ((wrapI .i64 (x11 + x8)) - (1 : Int))) < ((List.length x12 : Nat) : Int)), ((toN (wrapI .i64 ((wrapI .i64 (x11 + x8)) - (1 : Int)))) < List.length x12)] (by kernel_rfl) (by kernel_rfl) ⟨g_0, g_1, g_2, g_3, g_4, g_5, trivial⟩ ?_
    obtain ⟨g_0, h⟩ := gd_elim h
    obtain ⟨g_1, h⟩ := gd_elim h
    obtain ⟨g_2, h⟩ := gd_elim h
    obtain ⟨g_3, h⟩ := gd_elim h
    obtain ⟨g_4, h⟩ := gd_elim h
    obtain ⟨g_5, h⟩ := gd_elim h
    refine Run.regN hX [] 1600 [6, 7, 8, 9, 10, 11, 13, 14] [903, 1104] ⟨[(6, (.d t2 x8)), (7, (.d t130 x9)), (8, (.vec 903 t130)), (9, (.d t96 x10)), (10, (.vec 1104 t130)), (11, (.d t2 x11)), (13, (.d t12 (wrapI .u64 (Int.tdiv (wrapI .u64 ((wrapI .u64 ((wrapI .u64 (List.getD x12 (toN (wrapI .i64 (x11 + x8))) (0 : Int))) * (1000000000 : Int))) + (wrapI .u64 (List.getD x12 (toN (wrapI .i64 ((wrapI .i64 (x11 + x8)) - (1 : Int)))) (0 : Int))))) (wrapI .u64 (List.getD x10 (toN (wrapI .i64 (x8 - (1 : Int)))) (0 : Int))))))), (14, (.d t12 (Int.tmod (wrapI .u64 ((wrapI .u64 ((wrapI .u64 (List.getD x12 (toN (wrapI .i64 (x11 + x8))) (0 : Int))) * (1000000000 : Int))) + (wrapI .u64 (List.getD x12 (toN (wrapI .i64 ((wrapI .i64 (x11 + x8)) - (1 : Int)))) (0 : Int))))) (wrapI .u64 (List.getD x10 (toN (wrapI .i64 (x8 - (1 : Int)))) (0 : Int))))))], [(903, (.vec 130 t130 x12)), (1104, (.vec 130 t130 x13))]⟩ [(0 ≤ (wrapI .i64 (x8 - (1 : Int)))), ((wrapI .i64 (x8 - (1 : Int))) < ((List.length x10 : Nat) : Int)), ((wrapI .u64 (List.getD x10 (toN (wrapI .i64 (x8 - (1 : Int)))) (0 : Int))) ≠ 0), (0 ≤ (wrapI .i64 (x8 - (1 : Int)))), ((wrapI .i64 (x8 - (1 : Int))) < ((List.length x10 : Nat) : Int)), ((wrapI .u64 (List.getD x10 (toN (wrapI .i64 (x8 - (1 : Int)))) (0 : Int))) ≠ 0)] (by kernel_rfl) (by kernel_rfl) ⟨g_0, g_1, g_2, g_3, g_4, g_5, trivial⟩ ?_
    refine Run.seqN (by kernel_rfl) ?_
    refine Run.blockN 2 (by kernel_rfl) ?_
    obtain ⟨o43, h_o43, h⟩ := bnd_elim h
    refine Run.mono (f88_l1_ok x8 x9 x10 x11 x12 x13 _ (wrapI .u64 (Int.tdiv (wrapI .u64 ((wrapI .u64 ((wrapI .u64 (List.getD x12 (toN (wrapI .i64 (x11 + x8))) (0 : Int))) * (1000000000 : Int))) + (wrapI .u64 (List.getD x12 (toN (wrapI .i64 ((wrapI .i64 (x11 + x8)) - (1 : Int)))) (0 : Int))))) (wrapI .u64 (List.getD x10 (toN (wrapI .i64 (x8 - (1 : Int)))) (0 : Int))))) (Int.tmod (wrapI .u64 ((wrapI .u64 ((wrapI .u64 (List.getD x12 (toN (wrapI .i64 (x11 + x8))) (0 : Int))) * (1000000000 : Int))) + (wrapI .u64 (List.getD x12 (toN (wrapI .i64 ((wrapI .i64 (x11 + x8)) - (1 : Int)))) (0 : Int))))) (wrapI .u64 (List.getD x10 (toN (wrapI .i64 (x8 - (1 : Int)))) (0 : Int)))) h_o43) ?_
    rintro x s ⟨hx, hs⟩
    subst hx
    subst hs
    show Run Pg 179 _ _ _
    refine Run.seqN (by kernel_rfl) ?_
    obtain ⟨g_0, h⟩ := gd_elim h
    obtain ⟨g_1, h⟩ := gd_elim h
    obtain ⟨g_2, h⟩ := gd_elim h
    obtain ⟨g_3, h⟩ := gd_elim h
    obtain ⟨y44, h_y44, h⟩ := bnd_elim h
    refine Run.regN hX [(9, .callS [(1000000, (.vec 130 t130 x12))] [(.sub 1000000 t130 (Int.toNat x11) ((Int.toNat (wrapI .i64 ((wrapI .i64 (x11 + x8)) + (1 : Int)))) - (Int.toNat x11))), (.d t96 x10), (.d t12 o43)] [(1000000, 903)] (.d t4 y44.1) [(1000000, (.vec 130 t130 y44.2))])] 2100 [6, 7, 8, 9, 10, 11, 13, 151] [903, 1104] ⟨[(6, (.d t2 x8)), (7, (.d t130 x9)), (8, (.vec 903 t130)), (9, (.d t96 x10)), (10, (.vec 1104 t130)), (11, (.d t2 x11)), (13, (.d t12 o43)), (151, (.d t4 y44.1))], [(903, (.vec 130 t130 y44.2)), (1104, (.vec 130 t130 x13))]⟩ [(0 < List.length x12), (0 ≤ x11), (x11 ≤ (wrapI .i64 ((wrapI .i64 (x11 + x8)) + (1 : Int)))), ((wrapI .i64 ((wrapI .i64 (x11 + x8)) + (1 : Int))) ≤ ((List.length x12 : Nat) : Int)), (([(.sub 903 t130 (Int.toNat x11) ((Int.toNat (wrapI .i64 ((wrapI .i64 (x11 + x8)) + (1 : Int)))) - (Int.toNat x11))), (.d t96 x10), (.d t12 o43)] : List V) = List.map (V.ren (renL [(1000000, 903)] 2109)) [(.sub 1000000 t130 (Int.toNat x11) ((Int.toNat (wrapI .i64 ((wrapI .i64 (x11 + x8)) + (1 : Int)))) - (Int.toNat x11))), (.d t96 x10), (.d t12 o43)]), CallSt Pg 95 [(.sub 1000000 t130 (Int.toNat x11) ((Int.toNat (wrapI .i64 ((wrapI .i64 (x11 + x8)) + (1 : Int)))) - (Int.toNat x11))), (.d t96 x10), (.d t12 o43)] [(1000000, (.vec 130 t130 x12))] (.d t4 y44.1) [(1000000, (.vec 130 t130 y44.2))], ((some (.vec 130 t130 x12) : Option E) = some (E.ren (renL [(1000000, 903)] 2109) (.vec 130 t130 x12)))] (by kernel_rfl) (by kernel_rfl) ⟨g_0, g_1, g_2, g_3, (by kernel_rfl), (c95s0 h_y44), (by kernel_rfl), trivial⟩ ?_
    obtain ⟨o55, h_o55, h⟩ := bnd_elim h
    refine Run.mono (f88_c2_ok x8 x9 x10 x11 o43 y44.1 y44.2 x13 h_o55) ?_
    rintro x s ⟨hx, hs⟩
    subst hx
    subst hs
    show Run Pg 179 _ _ _
    obtain ⟨g_0, h⟩ := gd_elim h
    obtain ⟨g_1, h⟩ := gd_elim h
    obtain ⟨g_2, h⟩ := gd_elim h
    refine Run.regE hX [] 2400 [6, 7, 8, 9, 10, 11] [903, 1104] ⟨[(6, (.d t2 x8)), (7, (.d t130 x9)), (8, (.vec 903 t130)), (9, (.d t96 x10)), (10, (.vec 1104 t130)), (11, (.d t2 x11))], [(903, (.vec 130 t130 o55.2)), (1104, (.vec 130 t130 (List.set x13 (toN x11) (wrapI .u32 o55.1))))]⟩ [(0 ≤ x11), (x11 < ((List.length x13 : Nat) : Int)), ((toN x11) < List.length x13)] (by kernel_rfl) ⟨g_0, g_1, g_2, trivial⟩ ?_
    show Run Pg 179 _ _ _
    refine Run.regE hX [] 1400 [6, 7, 8, 9, 10, 11] [903, 1104] ⟨[(6, (.d t2 x8)), (7, (.d t130 x9)), (8, (.vec 903 t130)), (9, (.d t96 x10)), (10, (.vec 1104 t130)), (11, (.d t2 (wrapI .i64 (x11 - (1 : Int)))))], [(903, (.vec 130 t130 o55.2)), (1104, (.vec 130 t130 (List.set x13 (toN x11) (wrapI .u32 o55.1))))]⟩ [] (by kernel_rfl) trivial ?_
    exact ⟨m, Nat.lt_succ_self m, _, _, _, rfl, h⟩
  · replace h := bif_f h hb
    refine Run.keep (s' := ⟨[(6, (.d t2 x8)), (7, (.d t130 x9)), (8, (.vec 903 t130)), (10, (.vec 1104 t130))], [(903, (.vec 130 t130 x12)), (1104, (.vec 130 t130 x13))]⟩) [6, 7, 8, 10] [903, 1104] (by kernel_rfl) ?_
    refine Run.exitN 0 (by kernel_rfl) ?_
    replace h := Option.some.inj h
    subst h
    exact ⟨rfl, by kernel_rfl⟩

def F88 (a0 : List Int) (a1 : List Int) : Option ((List Int) × (List Int)) :=
  (F90 a0).bind fun y1 =>
  (F90 a1).bind fun y2 =>
  (bif ((ofN (List.length y2)) == (1 : Int)) then
    gd ((0 : Int) < ((List.length y2 : Nat) : Int)) <|
    (F94 y1 (List.getD y2 (toN (0 : Int)) (0 : Int))).bind fun y3 =>
    some (y3.1, y3.2)
  else
    (F81 y1 y2).bind fun y4 =>
    (bif (decide (y4 < (0 : Int))) then
      gd (List.length y1 ≤ 1073741824) <|
      some (([] : List Int), y1)
    else
      gd (0 ≤ (wrapI .i64 ((ofN (List.length y2)) - (1 : Int)))) <|
      gd ((wrapI .i64 ((ofN (List.length y2)) - (1 : Int))) < ((List.length y2 : Nat) : Int)) <|
      gd ((wrapI .u64 ((wrapI .u64 (List.getD y2 (toN (wrapI .i64 ((ofN (List.length y2)) - (1 : Int)))) (0 : Int))) + (1 : Int))) ≠ 0) <|
      (F79o y1 ([(wrapI .u32 (wrapI .u64 (Int.tdiv (1000000000 : Int) (wrapI .u64 ((wrapI .u64 (List.getD y2 (toN (wrapI .i64 ((ofN (List.length y2)) - (1 : Int)))) (0 : Int))) + (1 : Int))))))] : List Int)).bind fun y5 =>
      gd (List.length (y5 ++ ([(0 : Int)] : List Int)) ≤ 1073741824) <|
      (F79 y2 ([(wrapI .u32 (wrapI .u64 (Int.tdiv (1000000000 : Int) (wrapI .u64 ((wrapI .u64 (List.getD y2 (toN (wrapI .i64 ((ofN (List.length y2)) - (1 : Int)))) (0 : Int))) + (1 : Int))))))] : List Int)).bind fun y6 =>
      (F90 y6).bind fun y7 =>
      gd (0 ≤ (wrapI .i64 ((ofN (List.length (y5 ++ ([(0 : Int)] : List Int)))) - (ofN (List.length y2))))) <|
      gd ((wrapI .i64 ((ofN (List.length (y5 ++ ([(0 : Int)] : List Int)))) - (ofN (List.length y2)))) ≤ (wrapI .i64 ((ofN (List.length (y5 ++ ([(0 : Int)] : List Int)))) - (ofN (List.length y2))))) <|
      gd ((wrapI .i64 ((ofN (List.length (y5 ++ ([(0 : Int)] : List Int)))) - (ofN (List.length y2)))) ≤ 1073741824) <|
      ((f88_l0 (ofN (List.length y2)) y7 (2 + List.length y7 + List.length (y5 ++ ([(0 : Int)] : List Int)) + List.length (List.replicate (toN (wrapI .i64 ((ofN (List.length (y5 ++ ([(0 : Int)] : List Int)))) - (ofN (List.length y2))))) (0 : Int))) ((wrapI .i64 ((wrapI .i64 ((ofN (List.length (y5 ++ ([(0 : Int)] : List Int)))) - (ofN (List.length y2)))) - (1 : Int))), (y5 ++ ([(0 : Int)] : List Int)), (List.replicate (toN (wrapI .i64 ((ofN (List.length (y5 ++ ([(0 : Int)] : List Int)))) - (ofN (List.length y2))))) (0 : Int)))).bind fun o56 =>
        gd (0 ≤ (ofN (List.length y2))) <|
        gd ((ofN (List.length y2)) ≤ ((List.length o56.1 : Nat) : Int)) <|
        (F90 (List.take (Int.toNat (ofN (List.length y2))) o56.1)).bind fun y57 =>
        (F94 y57 (wrapI .u32 (wrapI .u64 (Int.tdiv (1000000000 : Int) (wrapI .u64 ((wrapI .u64 (List.getD y2 (toN (wrapI .i64 ((ofN (List.length y2)) - (1 : Int)))) (0 : Int))) + (1 : Int))))))).bind fun y58 =>
        some (o56.2, y58.1))))

theorem c88 {a0 : List Int} {a1 : List Int} {r : (List Int) × (List Int)} (h : F88 a0 a1 = some r) : CallPure Pg 88 [(.d t96 a0), (.d t96 a1)] (.tup (.vcons (.d t96 r.1) (.vcons (.d t96 r.2) .vnil))) := by
  refine callPureN hX c_88 179 [.tmp 4, .tmp 5] [96, 96] Go.Proofs.Try.func88 (by kernel_rfl) (by kernel_rfl) (by kernel_rfl) (Nat.le_of_ble_eq_true rfl) rfl rfl ?_
  show Run Pg 179 c_88 ⟨[(0, (.d t96 a0)), (1, (.d t96 a1))], []⟩ (fin88 r)
  unfold F88 at h
  refine Run.regN hX [] 100 [0, 1] [] ⟨[(0, (.d t96 a0)), (1, (.d t96 a1))], []⟩ [] (by kernel_rfl) (by kernel_rfl) trivial ?_
  obtain ⟨y1, h_y1, h⟩ := bnd_elim h
  obtain ⟨y2, h_y2, h⟩ := bnd_elim h
  refine Run.regN hX [(1, .call (.d t96 y1)), (3, .call (.d t96 y2))] 200 [0, 1] [] ⟨[(0, (.d t96 y1)), (1, (.d t96 y2))], []⟩ [CallPure Pg 90 [(.d t96 a0)] (.d t96 y1), CallPure Pg 90 [(.d t96 a1)] (.d t96 y2)] (by kernel_rfl) (by kernel_rfl) ⟨(c90 h_y1), (c90 h_y2), trivial⟩ ?_
  refine Run.seqN (by kernel_rfl) ?_
  refine Run.regN hX [] 300 [0, 1, 23] [] ⟨[(0, (.d t96 y1)), (1, (.d t96 y2)), (23, (.d t4 ((ofN (List.length y2)) == (1 : Int))))], []⟩ [] (by kernel_rfl) (by kernel_rfl) trivial ?_
  refine Run.condN ((ofN (List.length y2)) == (1 : Int)) (by kernel_rfl) (fun hb => ?_) (fun hb => ?_)
  · replace h := bif_t h hb
    obtain ⟨g_1, h⟩ := gd_elim h
    obtain ⟨y3, h_y3, h⟩ := bnd_elim h
    refine Run.regN hX [(4, .call (.tup (.vcons (.d t96 y3.1) (.vcons (.d t96 y3.2) .vnil))))] 400 [4, 5] [] ⟨[(4, (.d t96 y3.1)), (5, (.d t96 y3.2))], []⟩ [(0 ≤ (0 : Int)), ((0 : Int) < ((List.length y2 : Nat) : Int)), CallPure Pg 94 [(.d t96 y1), (.d t130 (List.getD y2 (toN (0 : Int)) (0 : Int)))] (.tup (.vcons (.d t96 y3.1) (.vcons (.d t96 y3.2) .vnil)))] (by kernel_rfl) (by kernel_rfl) ⟨(by decide), g_1, (c94 h_y3), trivial⟩ ?_
    refine Run.retN (by kernel_rfl) ?_
    replace h := Option.some.inj h
    subst h
    exact ⟨[(.d t96 y3.1), (.d t96 y3.2)], by kernel_rfl, by kernel_rfl⟩
  · replace h := bif_f h hb
    refine Run.skipN (by kernel_rfl) ?_
    show Run Pg 179 _ _ _
    refine Run.seqN (by kernel_rfl) ?_
    obtain ⟨y4, h_y4, h⟩ := bnd_elim h
    refine Run.regN hX [(2, .call (.d t2 y4))] 500 [0, 1, 34] [] ⟨[(0, (.d t96 y1)), (1, (.d t96 y2)), (34, (.d t4 (decide (y4 < (0 : Int)))))], []⟩ [CallPure Pg 81 [(.d t96 y1), (.d t96 y2)] (.d t2 y4)] (by kernel_rfl) (by kernel_rfl) ⟨(c81 h_y4), trivial⟩ ?_
    refine Run.condN (decide (y4 < (0 : Int))) (by kernel_rfl) (fun hb => ?_) (fun hb => ?_)
    · replace h := bif_t h hb
      obtain ⟨g_0, h⟩ := gd_elim h
      refine Run.regN hX [] 600 [4, 5] [] ⟨[(4, .nil), (5, (.d t96 y1))], []⟩ [(List.length y1 ≤ 1073741824)] (by kernel_rfl) (by kernel_rfl) ⟨g_0, trivial⟩ ?_
      refine Run.retN (by kernel_rfl) ?_
      replace h := Option.some.inj h
      subst h
      exact ⟨[(.d t96 ([] : List Int)), (.d t96 y1)], by kernel_rfl, by kernel_rfl⟩
    · replace h := bif_f h hb
      refine Run.skipN (by kernel_rfl) ?_
      show Run Pg 179 _ _ _
      refine Run.regN hX [] 700 [0, 1, 6] [] ⟨[(0, (.d t96 y1)), (1, (.d t96 y2)), (6, (.d t2 (ofN (List.length y2))))], []⟩ [] (by kernel_rfl) (by kernel_rfl) trivial ?_
      obtain ⟨g_0, h⟩ := gd_elim h
      obtain ⟨g_1, h⟩ := gd_elim h
      obtain ⟨g_2, h⟩ := gd_elim h
      refine Run.regN hX [] 800 [0, 1, 6, 7] [] ⟨[(0, (.d t96 y1)), (1, (.d t96 y2)), (6, (.d t2 (ofN (List.length y2)))), (7, (.d t130 (wrapI .u32 (wrapI .u64 (Int.tdiv (1000000000 : Int) (wrapI .u64 ((wrapI .u64 (List.getD y2 (toN (wrapI .i64 ((ofN (List.length y2)) - (1 : Int)))) (0 : Int))) + (1 : Int))))))))], []⟩ [(0 ≤ (wrapI .i64 ((ofN (List.length y2)) - (1 : Int)))), ((wrapI .i64 ((ofN (List.length y2)) - (1 : Int))) < ((List.length y2 : Nat) : Int)), ((wrapI .u64 ((wrapI .u64 (List.getD y2 (toN (wrapI .i64 ((ofN (List.length y2)) - (1 : Int)))) (0 : Int))) + (1 : Int))) ≠ 0)] (by kernel_rfl) (by kernel_rfl) ⟨g_0, g_1, g_2, trivial⟩ ?_
      obtain ⟨y5, h_y5, h⟩ := bnd_elim h
      obtain ⟨g_1, h⟩ := gd_elim h
      refine Run.regN hX [(3, .callO 130 t130 y5)] 900 [1, 6, 7, 8] [903] ⟨[(1, (.d t96 y2)), (6, (.d t2 (ofN (List.length y2)))), (7, (.d t130 (wrapI .u32 (wrapI .u64 (Int.tdiv (1000000000 : Int) (wrapI .u64 ((wrapI .u64 (List.getD y2 (toN (wrapI .i64 ((ofN (List.length y2)) - (1 : Int)))) (0 : Int))) + (1 : Int)))))))), (8, (.vec 903 t130))], [(903, (.vec 130 t130 (y5 ++ ([(0 : Int)] : List Int))))]⟩ [CallOwn Pg 79 [(.d t96 y1), (.d t96 ([(wrapI .u32 (wrapI .u64 (Int.tdiv (1000000000 : Int) (wrapI .u64 ((wrapI .u64 (List.getD y2 (toN (wrapI .i64 ((ofN (List.length y2)) - (1 : Int)))) (0 : Int))) + (1 : Int))))))] : List Int))] 130 t130 y5, (List.length (y5 ++ ([(0 : Int)] : List Int)) ≤ 1073741824)] (by kernel_rfl) (by kernel_rfl) ⟨(c79o h_y5), g_1, trivial⟩ ?_
      obtain ⟨y6, h_y6, h⟩ := bnd_elim h
      obtain ⟨y7, h_y7, h⟩ := bnd_elim h
      refine Run.regN hX [(3, .call (.d t96 y6)), (4, .call (.d t96 y7))] 1000 [6, 7, 8, 9] [903] ⟨[(6, (.d t2 (ofN (List.length y2)))), (7, (.d t130 (wrapI .u32 (wrapI .u64 (Int.tdiv (1000000000 : Int) (wrapI .u64 ((wrapI .u64 (List.getD y2 (toN (wrapI .i64 ((ofN (List.length y2)) - (1 : Int)))) (0 : Int))) + (1 : Int)))))))), (8, (.vec 903 t130)), (9, (.d t96 y7))], [(903, (.vec 130 t130 (y5 ++ ([(0 : Int)] : List Int))))]⟩ [CallPure Pg 79 [(.d t96 y2), (.d t96 ([(wrapI .u32 (wrapI .u64 (Int.tdiv (1000000000 : Int) (wrapI .u64 ((wrapI .u64 (List.getD y2 (toN (wrapI .i64 ((ofN (List.length y2)) - (1 : Int)))) (0 : Int))) + (1 : Int))))))] : List Int))] (.d t96 y6), CallPure Pg 90 [(.d t96 y6)] (.d t96 y7)] (by kernel_rfl) (by kernel_rfl) ⟨(c79 h_y6), (c90 h_y7), trivial⟩ ?_
      obtain ⟨g_0, h⟩ := gd_elim h
      obtain ⟨g_1, h⟩ := gd_elim h
      obtain ⟨g_2, h⟩ := gd_elim h
      refine Run.regN hX [] 1100 [6, 7, 8, 9, 10] [903, 1104] ⟨[(6, (.d t2 (ofN (List.length y2)))), (7, (.d t130 (wrapI .u32 (wrapI .u64 (Int.tdiv (1000000000 : Int) (wrapI .u64 ((wrapI .u64 (List.getD y2 (toN (wrapI .i64 ((ofN (List.length y2)) - (1 : Int)))) (0 : Int))) + (1 : Int)))))))), (8, (.vec 903 t130)), (9, (.d t96 y7)), (10, (.vec 1104 t130))], [(903, (.vec 130 t130 (y5 ++ ([(0 : Int)] : List Int)))), (1104, (.vec 130 t130 (List.replicate (toN (wrapI .i64 ((ofN (List.length (y5 ++ ([(0 : Int)] : List Int)))) - (ofN (List.length y2))))) (0 : Int))))]⟩ [(0 ≤ (wrapI .i64 ((ofN (List.length (y5 ++ ([(0 : Int)] : List Int)))) - (ofN (List.length y2))))), ((wrapI .i64 ((ofN (List.length (y5 ++ ([(0 : Int)] : List Int)))) - (ofN (List.length y2)))) ≤ (wrapI .i64 ((ofN (List.length (y5 ++ ([(0 : Int)] : List Int)))) - (ofN (List.length y2))))), ((wrapI .i64 ((ofN (List.length (y5 ++ ([(0 : Int)] : List Int)))) - (ofN (List.length y2)))) ≤ 1073741824)] (by kernel_rfl) (by kernel_rfl) ⟨g_0, g_1, g_2, trivial⟩ ?_
      refine Run.seqN (by kernel_rfl) ?_
      refine Run.regN hX [] 1200 [6, 7, 8, 9, 10, 11] [903, 1104] ⟨[(6, (.d t2 (ofN (List.length y2)))), (7, (.d t130 (wrapI .u32 (wrapI .u64 (Int.tdiv (1000000000 : Int) (wrapI .u64 ((wrapI .u64 (List.getD y2 (toN (wrapI .i64 ((ofN (List.length y2)) - (1 : Int)))) (0 : Int))) + (1 : Int)))))))), (8, (.vec 903 t130)), (9, (.d t96 y7)), (10, (.vec 1104 t130)), (11, (.d t2 (wrapI .i64 ((wrapI .i64 ((ofN (List.length (y5 ++ ([(0 : Int)] : List Int)))) - (ofN (List.length y2)))) - (1 : Int)))))], [(903, (.vec 130 t130 (y5 ++ ([(0 : Int)] : List Int)))), (1104, (.vec 130 t130 (List.replicate (toN (wrapI .i64 ((ofN (List.length (y5 ++ ([(0 : Int)] : List Int)))) - (ofN (List.length y2))))) (0 : Int))))]⟩ [] (by kernel_rfl) (by kernel_rfl) trivial ?_
      refine Run.blockN 0 (by kernel_rfl) ?_
      obtain ⟨o56, h_o56, h⟩ := bnd_elim h
      refine Run.mono (f88_l0_ok (ofN (List.length y2)) (wrapI .u32 (wrapI .u64 (Int.tdiv (1000000000 : Int) (wrapI .u64 ((wrapI .u64 (List.getD y2 (toN (wrapI .i64 ((ofN (List.length y2)) - (1 : Int)))) (0 : Int))) + (1 : Int)))))) y7 _ (wrapI .i64 ((wrapI .i64 ((ofN (List.length (y5 ++ ([(0 : Int)] : List Int)))) - (ofN (List.length y2)))) - (1 : Int))) (y5 ++ ([(0 : Int)] : List Int)) (List.replicate (toN (wrapI .i64 ((ofN (List.length (y5 ++ ([(0 : Int)] : List Int)))) - (ofN (List.length y2))))) (0 : Int)) h_o56) ?_
      rintro x s ⟨hx, hs⟩
      subst hx
      subst hs
      show Run Pg 179 _ _ _
      refine Run.freeze (s' := ⟨[(6, (.d t2 (ofN (List.length y2)))), (7, (.d t130 (wrapI .u32 (wrapI .u64 (Int.tdiv (1000000000 : Int) (wrapI .u64 ((wrapI .u64 (List.getD y2 (toN (wrapI .i64 ((ofN (List.length y2)) - (1 : Int)))) (0 : Int))) + (1 : Int)))))))), (8, (.d t96 o56.1)), (10, (.vec 1104 t130))], [(1104, (.vec 130 t130 o56.2))]⟩) 903 (by kernel_rfl) ?_
      obtain ⟨g_0, h⟩ := gd_elim h
      obtain ⟨g_1, h⟩ := gd_elim h
      obtain ⟨y57, h_y57, h⟩ := bnd_elim h
      obtain ⟨y58, h_y58, h⟩ := bnd_elim h
      refine Run.regN hX [(3, .call (.d t96 y57)), (5, .call (.tup (.vcons (.d t96 y58.1) (.vcons (.d t96 y58.2) .vnil))))] 2500 [10, 15] [1104] ⟨[(10, (.vec 1104 t130)), (15, (.d t96 y58.1))], [(1104, (.vec 130 t130 o56.2))]⟩ [(0 ≤ (ofN (List.length y2))), ((ofN (List.length y2)) ≤ ((List.length o56.1 : Nat) : Int)), CallPure Pg 90 [(.d t96 (List.take (Int.toNat (ofN (List.length y2))) o56.1))] (.d t96 y57), CallPure Pg 94 [(.d t96 y57), (.d t130 (wrapI .u32 (wrapI .u64 (Int.tdiv (1000000000 : Int) (wrapI .u64 ((wrapI .u64 (List.getD y2 (toN (wrapI .i64 ((ofN (List.length y2)) - (1 : Int)))) (0 : Int))) + (1 : Int)))))))] (.tup (.vcons (.d t96 y58.1) (.vcons (.d t96 y58.2) .vnil)))] (by kernel_rfl) (by kernel_rfl) ⟨g_0, g_1, (c90 h_y57), (c94 h_y58), trivial⟩ ?_
      refine Run.regN hX [] 2600 [4, 5] [1104] ⟨[(4, (.vec 1104 t130)), (5, (.d t96 y58.1))], [(1104, (.vec 130 t130 o56.2))]⟩ [] (by kernel_rfl) (by kernel_rfl) trivial ?_
      refine Run.freeze (s' := ⟨[(4, (.d t96 o56.2)), (5, (.d t96 y58.1))], []⟩) 1104 (by kernel_rfl) ?_
      refine Run.retN (by kernel_rfl) ?_
      replace h := Option.some.inj h
      subst h
      exact ⟨[(.d t96 o56.2), (.d t96 y58.1)], by kernel_rfl, by kernel_rfl⟩

/-! ## f77 -/

noncomputable def c_77 : Code := body0 Go.Proofs.Try.f77

def fin77 (r : (Bool × (List Int))) : Ex → St → Prop := endK X0 [.cell 4 98] [98] (.d t97 r)

def f77_l1_post (x22 : Bool × (List Int)) : (Int) → Ex → St → Prop
  | o, x, s => x = .out 2 ∧ s = ⟨[(4, (.ptr 102 0)), (7, (.d t12 o))], [(102, (.box (.vcons (.d t97 x22) .vnil)))]⟩

def f77_l1_b  (again : Int × Int → Option (Int)) : Int × Int → Option (Int)
  | (x20, x21) =>
    (bif (decide ((0 : Int) < x21)) then
      gd (x21 ≠ 0) <|
      again (x21, (Int.tmod x20 x21))
    else
      some x20)

def f77_l1  : Nat → Int × Int → Option (Int) := loopF (f77_l1_b )

theorem f77_l1_ok (x22 : Bool × (List Int)) (k : Nat) (x20 : Int) (x21 : Int) {out : (Int)} (h : f77_l1  k (x20, x21) = some out) : Run Pg 61 (bk1 (sq1 (cd1 (sq2 (sq1 (sq2 (sq2 (bk1 (sq2 (lp1 (bk1 (sq1 (sq2 (sq2 c_77)))))))))))))) ⟨[(4, (.ptr 102 0)), (7, (.d t12 x20)), (9, (.d t12 x21))], [(102, (.box (.vcons (.d t97 x22) .vnil)))]⟩ (f77_l1_post x22 out) := by
  refine Run.loopN (by kernel_rfl) (fun m s => ∃ x20 x21, s = ⟨[(4, (.ptr 102 0)), (7, (.d t12 x20)), (9, (.d t12 x21))], [(102, (.box (.vcons (.d t97 x22) .vnil)))]⟩ ∧ f77_l1  m (x20, x21) = some out) ?_ k ⟨x20, x21,  rfl, h⟩
  rintro m s ⟨x20, x21,  rfl, h⟩
  cases m with
  | zero => cases h
  | succ m =>
  replace h : f77_l1_b  (f77_l1  m) (x20, x21) = some out := h
  unfold f77_l1_b at h
  refine Run.seqN (by kernel_rfl) ?_
  refine Run.regN hX [] 700 [4, 7, 9, 38] [102] ⟨[(4, (.ptr 102 0)), (7, (.d t12 x20)), (9, (.d t12 x21)), (38, (.d t4 (decide ((0 : Int) < x21))))], [(102, (.box (.vcons (.d t97 x22) .vnil)))]⟩ [] (by kernel_rfl) (by kernel_rfl) trivial ?_
  refine Run.condN (decide ((0 : Int) < x21)) (by kernel_rfl) (fun hb => ?_) (fun hb => ?_)
  · replace h := bif_t h hb
    refine Run.skipN (by kernel_rfl) ?_
    show Run Pg 61 _ _ _
    refine Run.blockN 3 (by kernel_rfl) ?_
    obtain ⟨g_0, h⟩ := gd_elim h
    refine Run.regE hX [] 800 [4, 7, 9] [102] ⟨[(4, (.ptr 102 0)), (7, (.d t12 x21)), (9, (.d t12 (Int.tmod x20 x21)))], [(102, (.box (.vcons (.d t97 x22) .vnil)))]⟩ [(x21 ≠ 0)] (by kernel_rfl) ⟨g_0, trivial⟩ ?_
    exact ⟨m, Nat.lt_succ_self m, _, _, rfl, h⟩
  · replace h := bif_f h hb
    refine Run.keep (s' := ⟨[(4, (.ptr 102 0)), (7, (.d t12 x20))], [(102, (.box (.vcons (.d t97 x22) .vnil)))]⟩) [4, 7] [102] (by kernel_rfl) ?_
    refine Run.exitN 2 (by kernel_rfl) ?_
    replace h := Option.some.inj h
    subst h
    exact ⟨rfl, by kernel_rfl⟩

def f77_l0_post (x3 : Bool × (List Int)) : (((Bool × (List Int))) ⊕ ((Bool × (List Int)))) → Ex → St → Prop
  | .inl o, x, s => x = .out 0 ∧ s = ⟨[(4, (.ptr 102 0)), (5, (.ptr 206 0))], [(102, (.box (.vcons (.d t97 x3) .vnil))), (206, (.box (.vcons (.d t97 o) .vnil)))]⟩
  | .inr o, x, s => x = .ret ∧ fin77  o x s

def f77_l0_b  (again : (Bool × (List Int)) × (Bool × (List Int)) → Option (((Bool × (List Int))) ⊕ ((Bool × (List Int))))) : (Bool × (List Int)) × (Bool × (List Int)) → Option (((Bool × (List Int))) ⊕ ((Bool × (List Int))))
  | (x4, x5) =>
    (bif (decide ((0 : Int) < (ofN (List.length x5.2)))) then
      (F87 x4).bind fun y18 =>
      (F87 x5).bind fun y19 =>
      (bif y18.2 then
        (bif y19.2 then
          ((f77_l1  (2 + Int.toNat y19.1) (y18.1, y19.1)).bind fun o23 =>
            (F74 o23).bind fun y24 =>
            (F73 false y24).bind fun y25 =>
            some (.inr y25))
        else
          (F88 x4.2 x5.2).bind fun y26 =>
          (F73 false y26.2).bind fun y27 =>
          again (x5, y27))
      else
        (F88 x4.2 x5.2).bind fun y28 =>
        (F73 false y28.2).bind fun y29 =>
        again (x5, y29))
    else
      some (.inl x4))

def f77_l0  : Nat → (Bool × (List Int)) × (Bool × (List Int)) → Option (((Bool × (List Int))) ⊕ ((Bool × (List Int)))) := loopF (f77_l0_b )

theorem f77_l0_ok (x3 : Bool × (List Int)) (k : Nat) (x4 : Bool × (List Int)) (x5 : Bool × (List Int)) {out : (((Bool × (List Int))) ⊕ ((Bool × (List Int))))} (h : f77_l0  k (x4, x5) = some out) : Run Pg 61 (bk1 (sq1 (sq2 (sq2 c_77)))) ⟨[(4, (.ptr 102 0)), (5, (.ptr 206 0)), (6, (.ptr 207 0))], [(102, (.box (.vcons (.d t97 x3) .vnil))), (206, (.box (.vcons (.d t97 x4) .vnil))), (207, (.box (.vcons (.d t97 x5) .vnil)))]⟩ (f77_l0_post x3 out) := by
  refine Run.loopN (by kernel_rfl) (fun m s => ∃ x4 x5, s = ⟨[(4, (.ptr 102 0)), (5, (.ptr 206 0)), (6, (.ptr 207 0))], [(102, (.box (.vcons (.d t97 x3) .vnil))), (206, (.box (.vcons (.d t97 x4) .vnil))), (207, (.box (.vcons (.d t97 x5) .vnil)))]⟩ ∧ f77_l0  m (x4, x5) = some out) ?_ k ⟨x4, x5,  rfl, h⟩
  rintro m s ⟨x4, x5,  rfl, h⟩
  cases m with
  | zero => cases h
  | succ m =>
  replace h : f77_l0_b  (f77_l0  m) (x4, x5) = some out := h
  unfold f77_l0_b at h
  refine Run.seqN (by kernel_rfl) ?_
  refine Run.regN hX [] 300 [4, 5, 6, 22] [102, 206, 207] ⟨[(4, (.ptr 102 0)), (5, (.ptr 206 0)), (6, (.ptr 207 0)), (22, (.d t4 (decide ((0 : Int) < (ofN (List.length x5.2))))))], [(102, (.box (.vcons (.d t97 x3) .vnil))), (206, (.box (.vcons (.d t97 x4) .vnil))), (207, (.box (.vcons (.d t97 x5) .vnil)))]⟩ [] (by kernel_rfl) (by kernel_rfl) trivial ?_
  refine Run.condN (decide ((0 : Int) < (ofN (List.length x5.2)))) (by kernel_rfl) (fun hb => ?_) (fun hb => ?_)
  · replace h := bif_t h hb
    refine Run.skipN (by kernel_rfl) ?_
    show Run Pg 61 _ _ _
    refine Run.blockN 1 (by kernel_rfl) ?_
    obtain ⟨y18, h_y18, h⟩ := bnd_elim h
    refine Run.regN hX [(1, .call (.tup (.vcons (.d t12 y18.1) (.vcons (.d t4 y18.2) .vnil))))] 400 [4, 5, 6, 7, 8] [102, 206, 207] ⟨[(4, (.ptr 102 0)), (5, (.ptr 206 0)), (6, (.ptr 207 0)), (7, (.d t12 y18.1)), (8, (.d t4 y18.2))], [(102, (.box (.vcons (.d t97 x3) .vnil))), (206, (.box (.vcons (.d t97 x4) .vnil))), (207, (.box (.vcons (.d t97 x5) .vnil)))]⟩ [CallPure Pg 87 [(.d t97 x4)] (.tup (.vcons (.d t12 y18.1) (.vcons (.d t4 y18.2) .vnil)))] (by kernel_rfl) (by kernel_rfl) ⟨(c87 h_y18), trivial⟩ ?_
    obtain ⟨y19, h_y19, h⟩ := bnd_elim h
    refine Run.regN hX [(1, .call (.tup (.vcons (.d t12 y19.1) (.vcons (.d t4 y19.2) .vnil))))] 500 [4, 5, 6, 7, 8, 9, 10] [102, 206, 207] ⟨[(4, (.ptr 102 0)), (5, (.ptr 206 0)), (6, (.ptr 207 0)), (7, (.d t12 y18.1)), (8, (.d t4 y18.2)), (9, (.d t12 y19.1)), (10, (.d t4 y19.2))], [(102, (.box (.vcons (.d t97 x3) .vnil))), (206, (.box (.vcons (.d t97 x4) .vnil))), (207, (.box (.vcons (.d t97 x5) .vnil)))]⟩ [CallPure Pg 87 [(.d t97 x5)] (.tup (.vcons (.d t12 y19.1) (.vcons (.d t4 y19.2) .vnil)))] (by kernel_rfl) (by kernel_rfl) ⟨(c87 h_y19), trivial⟩ ?_
    refine Run.seqN (by kernel_rfl) ?_
    rcases bif_elim h with ⟨hb0, h⟩ | ⟨hb0, h⟩
    · refine Run.regN hX [(1, .b true)] 600 [4, 5, 6, 7, 9, 36] [102, 206, 207] ⟨[(4, (.ptr 102 0)), (5, (.ptr 206 0)), (6, (.ptr 207 0)), (7, (.d t12 y18.1)), (9, (.d t12 y19.1)), (36, (.d t4 y19.2))], [(102, (.box (.vcons (.d t97 x3) .vnil))), (206, (.box (.vcons (.d t97 x4) .vnil))), (207, (.box (.vcons (.d t97 x5) .vnil)))]⟩ [y18.2 = true] (by kernel_rfl) (by kernel_rfl) ⟨hb0, trivial⟩ ?_
      refine Run.condN y19.2 (by kernel_rfl) (fun hb => ?_) (fun hb => ?_)
      · replace h := bif_t h hb
        refine Run.seqN (by kernel_rfl) ?_
        refine Run.blockN 2 (by kernel_rfl) ?_
        refine Run.keep (s' := ⟨[(4, (.ptr 102 0)), (7, (.d t12 y18.1)), (9, (.d t12 y19.1))], [(102, (.box (.vcons (.d t97 x3) .vnil)))]⟩) [4, 7, 9] [102] (by kernel_rfl) ?_
        obtain ⟨o23, h_o23, h⟩ := bnd_elim h
        refine Run.mono (f77_l1_ok x3 _ y18.1 y19.1 h_o23) ?_
        rintro x s ⟨hx, hs⟩
        subst hx
        subst hs
        show Run Pg 61 _ _ _
        obtain ⟨y24, h_y24, h⟩ := bnd_elim h
        obtain ⟨y25, h_y25, h⟩ := bnd_elim h
        refine Run.regN hX [(1, .call (.d t96 y24)), (2, .call (.d t97 y25))] 900 [4] [102] ⟨[(4, (.ptr 102 0))], [(102, (.box (.vcons (.d t97 y25) .vnil)))]⟩ [CallPure Pg 74 [(.d t12 o23)] (.d t96 y24), CallPure Pg 73 [(.d t4 false), (.d t96 y24)] (.d t97 y25)] (by kernel_rfl) (by kernel_rfl) ⟨(c74 h_y24), (c73 h_y25), trivial⟩ ?_
        refine Run.retN (by kernel_rfl) ?_
        replace h := Option.some.inj h
        subst h
        exact ⟨rfl, [(.d t97 y25)], by kernel_rfl, by kernel_rfl⟩
      · replace h := bif_f h hb
        refine Run.skipN (by kernel_rfl) ?_
        show Run Pg 61 _ _ _
        obtain ⟨y26, h_y26, h⟩ := bnd_elim h
        refine Run.regN hX [(4, .call (.tup (.vcons (.d t96 y26.1) (.vcons (.d t96 y26.2) .vnil))))] 1000 [4, 5, 6, 12] [102, 206, 207] ⟨[(4, (.ptr 102 0)), (5, (.ptr 206 0)), (6, (.ptr 207 0)), (12, (.d t96 y26.2))], [(102, (.box (.vcons (.d t97 x3) .vnil))), (206, (.box (.vcons (.d t97 x4) .vnil))), (207, (.box (.vcons (.d t97 x5) .vnil)))]⟩ [CallPure Pg 88 [(.d t96 x4.2), (.d t96 x5.2)] (.tup (.vcons (.d t96 y26.1) (.vcons (.d t96 y26.2) .vnil)))] (by kernel_rfl) (by kernel_rfl) ⟨(c88 h_y26), trivial⟩ ?_
        obtain ⟨y27, h_y27, h⟩ := bnd_elim h
        refine Run.regE hX [(2, .call (.d t97 y27))] 1100 [4, 5, 6] [102, 206, 207] ⟨[(4, (.ptr 102 0)), (5, (.ptr 206 0)), (6, (.ptr 207 0))], [(102, (.box (.vcons (.d t97 x3) .vnil))), (206, (.box (.vcons (.d t97 x5) .vnil))), (207, (.box (.vcons (.d t97 y27) .vnil)))]⟩ [CallPure Pg 73 [(.d t4 false), (.d t96 y26.2)] (.d t97 y27)] (by kernel_rfl) ⟨(c73 h_y27), trivial⟩ ?_
        exact ⟨m, Nat.lt_succ_self m, _, _, rfl, h⟩
    · refine Run.regN hX [(1, .b false)] 600 [4, 5, 6, 7, 9, 36] [102, 206, 207] ⟨[(4, (.ptr 102 0)), (5, (.ptr 206 0)), (6, (.ptr 207 0)), (7, (.d t12 y18.1)), (9, (.d t12 y19.1)), (36, (.d t4 false))], [(102, (.box (.vcons (.d t97 x3) .vnil))), (206, (.box (.vcons (.d t97 x4) .vnil))), (207, (.box (.vcons (.d t97 x5) .vnil)))]⟩ [y18.2 = false] (by kernel_rfl) (by kernel_rfl) ⟨hb0, trivial⟩ ?_
      refine Run.condN false (by kernel_rfl) (fun hb => (by cases hb)) (fun hb => ?_)
      refine Run.skipN (by kernel_rfl) ?_
      show Run Pg 61 _ _ _
      obtain ⟨y28, h_y28, h⟩ := bnd_elim h
      refine Run.regN hX [(4, .call (.tup (.vcons (.d t96 y28.1) (.vcons (.d t96 y28.2) .vnil))))] 1000 [4, 5, 6, 12] [102, 206, 207] ⟨[(4, (.ptr 102 0)), (5, (.ptr 206 0)), (6, (.ptr 207 0)), (12, (.d t96 y28.2))], [(102, (.box (.vcons (.d t97 x3) .vnil))), (206, (.box (.vcons (.d t97 x4) .vnil))), (207, (.box (.vcons (.d t97 x5) .vnil)))]⟩ [CallPure Pg 88 [(.d t96 x4.2), (.d t96 x5.2)] (.tup (.vcons (.d t96 y28.1) (.vcons (.d t96 y28.2) .vnil)))] (by kernel_rfl) (by kernel_rfl) ⟨(c88 h_y28), trivial⟩ ?_
      obtain ⟨y29, h_y29, h⟩ := bnd_elim h
      refine Run.regE hX [(2, .call (.d t97 y29))] 1100 [4, 5, 6] [102, 206, 207] ⟨[(4, (.ptr 102 0)), (5, (.ptr 206 0)), (6, (.ptr 207 0))], [(102, (.box (.vcons (.d t97 x3) .vnil))), (206, (.box (.vcons (.d t97 x5) .vnil))), (207, (.box (.vcons (.d t97 y29) .vnil)))]⟩ [CallPure Pg 73 [(.d t4 false), (.d t96 y28.2)] (.d t97 y29)] (by kernel_rfl) ⟨(c73 h_y29), trivial⟩ ?_
      exact ⟨m, Nat.lt_succ_self m, _, _, rfl, h⟩
  · replace h := bif_f h hb
    refine Run.keep (s' := ⟨[(4, (.ptr 102 0)), (5, (.ptr 206 0))], [(102, (.box (.vcons (.d t97 x3) .vnil))), (206, (.box (.vcons (.d t97 x4) .vnil)))]⟩) [4, 5] [102, 206] (by kernel_rfl) ?_
    refine Run.exitN 0 (by kernel_rfl) ?_
    replace h := Option.some.inj h
    subst h
    exact ⟨rfl, by kernel_rfl⟩

def F77 (a0 : Bool × (List Int)) (a1 : Bool × (List Int)) : Option ((Bool × (List Int))) :=
  (F73 false a0.2).bind fun y1 =>
  (F73 false a1.2).bind fun y2 =>
  ((f77_l0  (2 + valF y2.2) (y1, y2)).bind fun o30 => match o30 with
    | .inl o31 =>
        gd (List.length o31.2 ≤ 1073741824) <|
        (F73 false o31.2).bind fun y32 =>
        some y32
    | .inr o33 =>
        some o33)

theorem c77 {a0 : Bool × (List Int)} {a1 : Bool × (List Int)} {r : (Bool × (List Int))} (h : F77 a0 a1 = some r) : CallPure Pg 77 [(.d t97 a0), (.d t97 a1)] (.d t97 r) := by
  refine callPureN hX c_77 61 [.cell 4 98] [98] Go.Proofs.Try.func77 (by kernel_rfl) (by kernel_rfl) (by kernel_rfl) (Nat.le_of_ble_eq_true rfl) rfl rfl ?_
  show Run Pg 61 c_77 ⟨[(0, (.d t97 a0)), (1, (.d t97 a1))], []⟩ (fin77 r)
  unfold F77 at h
  refine Run.regN hX [] 100 [2, 3, 4] [100, 101, 102] ⟨[(2, (.ptr 100 0)), (3, (.ptr 101 0)), (4, (.ptr 102 0))], [(100, (.box (.vcons (.d t97 a0) .vnil))), (101, (.box (.vcons (.d t97 a1) .vnil))), (102, (.box (.vcons (.d t97 (false, ([] : List Int))) .vnil)))]⟩ [] (by kernel_rfl) (by kernel_rfl) trivial ?_
  obtain ⟨y1, h_y1, h⟩ := bnd_elim h
  obtain ⟨y2, h_y2, h⟩ := bnd_elim h
  refine Run.regN hX [(2, .call (.d t97 y1)), (5, .call (.d t97 y2))] 200 [4, 5, 6] [102, 206, 207] ⟨[(4, (.ptr 102 0)), (5, (.ptr 206 0)), (6, (.ptr 207 0))], [(102, (.box (.vcons (.d t97 (false, ([] : List Int))) .vnil))), (206, (.box (.vcons (.d t97 y1) .vnil))), (207, (.box (.vcons (.d t97 y2) .vnil)))]⟩ [CallPure Pg 73 [(.d t4 false), (.d t96 a0.2)] (.d t97 y1), CallPure Pg 73 [(.d t4 false), (.d t96 a1.2)] (.d t97 y2)] (by kernel_rfl) (by kernel_rfl) ⟨(c73 h_y1), (c73 h_y2), trivial⟩ ?_
  refine Run.seqN (by kernel_rfl) ?_
  refine Run.blockN 0 (by kernel_rfl) ?_
  obtain ⟨o30, h_o30, h⟩ := bnd_elim h
  refine Run.mono (f77_l0_ok (false, ([] : List Int)) _ y1 y2 h_o30) ?_
  rcases o30 with o31 | o33
  · rintro x s ⟨hx, hs⟩
    subst hx
    subst hs
    show Run Pg 61 _ _ _
    obtain ⟨g_0, h⟩ := gd_elim h
    obtain ⟨y32, h_y32, h⟩ := bnd_elim h
    refine Run.regN hX [(3, .call (.d t97 y32))] 1200 [4] [102] ⟨[(4, (.ptr 102 0))], [(102, (.box (.vcons (.d t97 y32) .vnil)))]⟩ [(List.length o31.2 ≤ 1073741824), CallPure Pg 73 [(.d t4 false), (.d t96 o31.2)] (.d t97 y32)] (by kernel_rfl) (by kernel_rfl) ⟨g_0, (c73 h_y32), trivial⟩ ?_
    refine Run.retN (by kernel_rfl) ?_
    replace h := Option.some.inj h
    subst h
    exact ⟨[(.d t97 y32)], by kernel_rfl, by kernel_rfl⟩
  · rintro x s ⟨hx, hr⟩
    subst hx
    replace h := Option.some.inj h
    subst h
    exact hr

/-! ## f69 -/

noncomputable def c_69 : Code := body0 Go.Proofs.Try.f69

def fin69 (r : Int) : Ex → St → Prop := endK X0 [.tmp 4] [3] (.d t2 r)

def F69 (a0 : Bool × (List Int)) (a1 : Bool × (List Int)) : Option (Int) :=
  (bif (!(a0.1 == a1.1)) then
    (bif a0.1 then
      some (-1 : Int)
    else
      some (1 : Int))
  else
    (bif a0.1 then
      (F81 a1.2 a0.2).bind fun y1 =>
      some y1
    else
      (F81 a0.2 a1.2).bind fun y2 =>
      some y2))

theorem c69 {a0 : Bool × (List Int)} {a1 : Bool × (List Int)} {r : Int} (h : F69 a0 a1 = some r) : CallPure Pg 69 [(.d t97 a0), (.d t97 a1)] (.d t2 r) := by
  refine callPureN hX c_69 24 [.tmp 4] [3] Go.Proofs.Try.func69 (by kernel_rfl) (by kernel_rfl) (by kernel_rfl) (Nat.le_of_ble_eq_true rfl) rfl rfl ?_
  show Run Pg 24 c_69 ⟨[(0, (.d t97 a0)), (1, (.d t97 a1))], []⟩ (fin69 r)
  unfold F69 at h
  refine Run.regN hX [] 100 [2, 3] [100, 101] ⟨[(2, (.ptr 100 0)), (3, (.ptr 101 0))], [(100, (.box (.vcons (.d t97 a0) .vnil))), (101, (.box (.vcons (.d t97 a1) .vnil)))]⟩ [] (by kernel_rfl) (by kernel_rfl) trivial ?_
  refine Run.seqN (by kernel_rfl) ?_
  refine Run.regN hX [] 200 [2, 3, 9] [100, 101] ⟨[(2, (.ptr 100 0)), (3, (.ptr 101 0)), (9, (.d t4 (!(a0.1 == a1.1))))], [(100, (.box (.vcons (.d t97 a0) .vnil))), (101, (.box (.vcons (.d t97 a1) .vnil)))]⟩ [] (by kernel_rfl) (by kernel_rfl) trivial ?_
  refine Run.condN (!(a0.1 == a1.1)) (by kernel_rfl) (fun hb => ?_) (fun hb => ?_)
  · replace h := bif_t h hb
    refine Run.seqN (by kernel_rfl) ?_
    refine Run.regN hX [] 300 [11] [] ⟨[(11, (.d t4 a0.1))], []⟩ [] (by kernel_rfl) (by kernel_rfl) trivial ?_
    refine Run.condN a0.1 (by kernel_rfl) (fun hb => ?_) (fun hb => ?_)
    · replace h := bif_t h hb
      refine Run.regN hX [] 400 [4] [] ⟨[(4, (.d t2 (-1 : Int)))], []⟩ [] (by kernel_rfl) (by kernel_rfl) trivial ?_
      refine Run.retN (by kernel_rfl) ?_
      replace h := Option.some.inj h
      subst h
      exact ⟨[(.d t2 (-1 : Int))], by kernel_rfl, by kernel_rfl⟩
    · replace h := bif_f h hb
      refine Run.skipN (by kernel_rfl) ?_
      show Run Pg 24 _ _ _
      refine Run.regN hX [] 500 [4] [] ⟨[(4, (.d t2 (1 : Int)))], []⟩ [] (by kernel_rfl) (by kernel_rfl) trivial ?_
      refine Run.retN (by kernel_rfl) ?_
      replace h := Option.some.inj h
      subst h
      exact ⟨[(.d t2 (1 : Int))], by kernel_rfl, by kernel_rfl⟩
  · replace h := bif_f h hb
    refine Run.skipN (by kernel_rfl) ?_
    show Run Pg 24 _ _ _
    refine Run.seqN (by kernel_rfl) ?_
    refine Run.regN hX [] 600 [2, 3, 13] [100, 101] ⟨[(2, (.ptr 100 0)), (3, (.ptr 101 0)), (13, (.d t4 a0.1))], [(100, (.box (.vcons (.d t97 a0) .vnil))), (101, (.box (.vcons (.d t97 a1) .vnil)))]⟩ [] (by kernel_rfl) (by kernel_rfl) trivial ?_
    refine Run.condN a0.1 (by kernel_rfl) (fun hb => ?_) (fun hb => ?_)
    · replace h := bif_t h hb
      obtain ⟨y1, h_y1, h⟩ := bnd_elim h
      refine Run.regN hX [(4, .call (.d t2 y1))] 700 [4] [] ⟨[(4, (.d t2 y1))], []⟩ [CallPure Pg 81 [(.d t96 a1.2), (.d t96 a0.2)] (.d t2 y1)] (by kernel_rfl) (by kernel_rfl) ⟨(c81 h_y1), trivial⟩ ?_
      refine Run.retN (by kernel_rfl) ?_
      replace h := Option.some.inj h
      subst h
      exact ⟨[(.d t2 y1)], by kernel_rfl, by kernel_rfl⟩
    · replace h := bif_f h hb
      refine Run.skipN (by kernel_rfl) ?_
      show Run Pg 24 _ _ _
      obtain ⟨y2, h_y2, h⟩ := bnd_elim h
      refine Run.regN hX [(4, .call (.d t2 y2))] 800 [4] [] ⟨[(4, (.d t2 y2))], []⟩ [CallPure Pg 81 [(.d t96 a0.2), (.d t96 a1.2)] (.d t2 y2)] (by kernel_rfl) (by kernel_rfl) ⟨(c81 h_y2), trivial⟩ ?_
      refine Run.retN (by kernel_rfl) ?_
      replace h := Option.some.inj h
      subst h
      exact ⟨[(.d t2 y2)], by kernel_rfl, by kernel_rfl⟩

/-! ## f101 -/

noncomputable def c_101 : Code := body0 Go.Proofs.Try.f101

def fin101 (r : (List Int)) : Ex → St → Prop := endK X0 [.tmp 4] [96] (.d t96 r)

def f101_c0_post (x1 : List Int) (x2 : List Int) (x3 : Bool) : ((List Int) × (List Int)) → Ex → St → Prop
  | o, x, s => x = .nrm ∧ s = ⟨[(0, (.d t96 o.1)), (1, (.d t96 o.2))], []⟩

def f101_c0 (x1 : List Int) (x2 : List Int) (x3 : Bool) : Option ((List Int) × (List Int)) :=
  (bif x3 then
    some (x2, x1)
  else
    some (x1, x2))

theorem f101_c0_ok (x1 : List Int) (x2 : List Int) (x3 : Bool) {out : ((List Int) × (List Int))} (h : f101_c0 x1 x2 x3 = some out) : Run Pg 53 (sq2 (sq1 (sq2 c_101))) ⟨[(0, (.d t96 x1)), (1, (.d t96 x2)), (13, (.d t4 x3))], []⟩ (f101_c0_post x1 x2 x3 out) := by
  unfold f101_c0 at h
  refine Run.condN x3 (by kernel_rfl) (fun hb => ?_) (fun hb => ?_)
  · replace h := bif_t h hb
    refine Run.regE hX [] 300 [0, 1] [] ⟨[(0, (.d t96 x2)), (1, (.d t96 x1))], []⟩ [] (by kernel_rfl) trivial ?_
    replace h := Option.some.inj h
    subst h
    exact ⟨rfl, by kernel_rfl⟩
  · replace h := bif_f h hb
    refine Run.keep (s' := ⟨[(0, (.d t96 x1)), (1, (.d t96 x2))], []⟩) [0, 1] [] (by kernel_rfl) ?_
    refine Run.skipN (by kernel_rfl) ?_
    replace h := Option.some.inj h
    subst h
    exact ⟨rfl, by kernel_rfl⟩

def f101_c2_post (x28 : List Int) (x29 : Int) (x30 : Int) (x31 : List Int) (x32 : Int) (x33 : Bool) (x34 : List Int) : (Int) → Ex → St → Prop
  | o, x, s => x = .nrm ∧ s = ⟨[(1, (.d t96 x28)), (5, (.vec 403 t130)), (8, (.d t130 o)), (20, (.d t96 x31)), (21, (.d t2 x32)), (22, (.d t2 x29))], [(403, (.vec 130 t130 x34))]⟩

def f101_c2 (x28 : List Int) (x29 : Int) (x30 : Int) (x33 : Bool) : Option (Int) :=
  (bif x33 then
    gd (0 ≤ x29) <|
    gd (x29 < ((List.length x28 : Nat) : Int)) <|
    some (wrapI .u32 (x30 + (List.getD x28 (toN x29) (0 : Int))))
  else
    some x30)

theorem f101_c2_ok (x28 : List Int) (x29 : Int) (x30 : Int) (x31 : List Int) (x32 : Int) (x33 : Bool) (x34 : List Int) {out : (Int)} (h : f101_c2 x28 x29 x30 x33 = some out) : Run Pg 53 (sq2 (sq1 (sq2 (sq2 (bk1 (sq1 (sq2 (sq2 (lp1 (bk1 (sq2 (sq1 (sq2 (sq2 (sq2 (sq2 c_101)))))))))))))))) ⟨[(1, (.d t96 x28)), (5, (.vec 403 t130)), (7, (.d t2 x29)), (8, (.d t130 x30)), (20, (.d t96 x31)), (21, (.d t2 x32)), (22, (.d t2 x29)), (33, (.d t4 x33))], [(403, (.vec 130 t130 x34))]⟩ (f101_c2_post x28 x29 x30 x31 x32 x33 x34 out) := by
  unfold f101_c2 at h
  refine Run.condN x33 (by kernel_rfl) (fun hb => ?_) (fun hb => ?_)
  · replace h := bif_t h hb
    obtain ⟨g_0, h⟩ := gd_elim h
    obtain ⟨g_1, h⟩ := gd_elim h
    refine Run.regE hX [] 1100 [1, 5, 8, 20, 21, 22] [403] ⟨[(1, (.d t96 x28)), (5, (.vec 403 t130)), (8, (.d t130 (wrapI .u32 (x30 + (List.getD x28 (toN x29) (0 : Int)))))), (20, (.d t96 x31)), (21, (.d t2 x32)), (22, (.d t2 x29))], [(403, (.vec 130 t130 x34))]⟩ [(0 ≤ x29), (x29 < ((List.length x28 : Nat) : Int))] (by kernel_rfl) ⟨g_0, g_1, trivial⟩ ?_
    replace h := Option.some.inj h
    subst h
    exact ⟨rfl, by kernel_rfl⟩
  · replace h := bif_f h hb
    refine Run.keep (s' := ⟨[(1, (.d t96 x28)), (5, (.vec 403 t130)), (8, (.d t130 x30)), (20, (.d t96 x31)), (21, (.d t2 x32)), (22, (.d t2 x29))], [(403, (.vec 130 t130 x34))]⟩) [1, 5, 8, 20, 21, 22] [403] (by kernel_rfl) ?_
    refine Run.skipN (by kernel_rfl) ?_
    replace h := Option.some.inj h
    subst h
    exact ⟨rfl, by kernel_rfl⟩

def f101_c3_post (x36 : List Int) (x37 : Int) (x38 : Int) (x39 : List Int) (x40 : Int) (x41 : Int) (x42 : Bool) (x43 : List Int) : (Int × Int) → Ex → St → Prop
  | o, x, s => x = .nrm ∧ s = ⟨[(1, (.d t96 x36)), (5, (.vec 403 t130)), (6, (.d t130 o.1)), (8, (.d t130 o.2)), (20, (.d t96 x39)), (21, (.d t2 x40)), (22, (.d t2 x41))], [(403, (.vec 130 t130 x43))]⟩

def f101_c3 (x37 : Int) (x38 : Int) (x42 : Bool) : Option (Int × Int) :=
  (bif x42 then
    some ((1 : Int), (wrapI .u32 (x38 - (1000000000 : Int))))
  else
    some (x37, x38))

theorem f101_c3_ok (x36 : List Int) (x37 : Int) (x38 : Int) (x39 : List Int) (x40 : Int) (x41 : Int) (x42 : Bool) (x43 : List Int) {out : (Int × Int)} (h : f101_c3 x37 x38 x42 = some out) : Run Pg 53 (sq2 (sq1 (sq2 (sq2 (sq2 (sq2 (bk1 (sq1 (sq2 (sq2 (lp1 (bk1 (sq2 (sq1 (sq2 (sq2 (sq2 (sq2 c_101)))))))))))))))))) ⟨[(1, (.d t96 x36)), (5, (.vec 403 t130)), (6, (.d t130 x37)), (8, (.d t130 x38)), (20, (.d t96 x39)), (21, (.d t2 x40)), (22, (.d t2 x41)), (41, (.d t4 x42))], [(403, (.vec 130 t130 x43))]⟩ (f101_c3_post x36 x37 x38 x39 x40 x41 x42 x43 out) := by
  unfold f101_c3 at h
  refine Run.condN x42 (by kernel_rfl) (fun hb => ?_) (fun hb => ?_)
  · replace h := bif_t h hb
    refine Run.regE hX [] 1400 [1, 5, 6, 8, 20, 21, 22] [403] ⟨[(1, (.d t96 x36)), (5, (.vec 403 t130)), (6, (.d t130 (1 : Int))), (8, (.d t130 (wrapI .u32 (x38 - (1000000000 : Int))))), (20, (.d t96 x39)), (21, (.d t2 x40)), (22, (.d t2 x41))], [(403, (.vec 130 t130 x43))]⟩ [] (by kernel_rfl) trivial ?_
    replace h := Option.some.inj h
    subst h
    exact ⟨rfl, by kernel_rfl⟩
  · replace h := bif_f h hb
    refine Run.keep (s' := ⟨[(1, (.d t96 x36)), (5, (.vec 403 t130)), (6, (.d t130 x37)), (8, (.d t130 x38)), (20, (.d t96 x39)), (21, (.d t2 x40)), (22, (.d t2 x41))], [(403, (.vec 130 t130 x43))]⟩) [1, 5, 6, 8, 20, 21, 22] [403] (by kernel_rfl) ?_
    refine Run.skipN (by kernel_rfl) ?_
    replace h := Option.some.inj h
    subst h
    exact ⟨rfl, by kernel_rfl⟩

def f101_l1_post (x5 : List Int) (x7 : List Int) (x8 : Int) : (Int × (List Int)) → Ex → St → Prop
  | o, x, s => x = .out 0 ∧ s = ⟨[(5, (.vec 403 t130)), (6, (.d t130 o.1))], [(403, (.vec 130 t130 o.2))]⟩

def f101_l1_b (x5 : List Int) (x7 : List Int) (x8 : Int) (again : Int × Int × (List Int) → Option (Int × (List Int))) : Int × Int × (List Int) → Option (Int × (List Int))
  | (x6, x9, x10) =>
    (bif (decide (x9 < x8)) then
      gd (0 ≤ x9) <|
      gd (x9 < ((List.length x7 : Nat) : Int)) <|
      ((f101_c2 x5 x9 (wrapI .u32 ((List.getD x7 (toN x9) (0 : Int)) + x6)) (decide (x9 < (ofN (List.length x5))))).bind fun o35 =>
        ((f101_c3 (0 : Int) o35 (decide ((1000000000 : Int) ≤ o35))).bind fun o44 =>
          gd (List.length (x10 ++ ([o44.2] : List Int)) ≤ 1073741824) <|
          again (o44.1, (wrapI .i64 (x9 + (1 : Int))), (x10 ++ ([o44.2] : List Int)))))
    else
      some (x6, x10))

def f101_l1 (x5 : List Int) (x7 : List Int) (x8 : Int) : Nat → Int × Int × (List Int) → Option (Int × (List Int)) := loopF (f101_l1_b x5 x7 x8)

theorem f101_l1_ok (x5 : List Int) (x7 : List Int) (x8 : Int) (k : Nat) (x6 : Int) (x9 : Int) (x10 : List Int) {out : (Int × (List Int))} (h : f101_l1 x5 x7 x8 k (x6, x9, x10) = some out) : Run Pg 53 (bk1 (sq2 (sq1 (sq2 (sq2 (sq2 (sq2 c_101))))))) ⟨[(1, (.d t96 x5)), (5, (.vec 403 t130)), (6, (.d t130 x6)), (20, (.d t96 x7)), (21, (.d t2 x8)), (22, (.d t2 x9))], [(403, (.vec 130 t130 x10))]⟩ (f101_l1_post x5 x7 x8 out) := by
  refine Run.loopN (by kernel_rfl) (fun m s => ∃ x6 x9 x10, s = ⟨[(1, (.d t96 x5)), (5, (.vec 403 t130)), (6, (.d t130 x6)), (20, (.d t96 x7)), (21, (.d t2 x8)), (22, (.d t2 x9))], [(403, (.vec 130 t130 x10))]⟩ ∧ f101_l1 x5 x7 x8 m (x6, x9, x10) = some out) ?_ k ⟨x6, x9, x10,  rfl, h⟩
  rintro m s ⟨x6, x9, x10,  rfl, h⟩
  cases m with
  | zero => cases h
  | succ m =>
  replace h : f101_l1_b x5 x7 x8 (f101_l1 x5 x7 x8 m) (x6, x9, x10) = some out := h
  unfold f101_l1_b at h
  refine Run.regN hX [] 700 [1, 5, 6, 20, 21, 22, 23] [403] ⟨[(1, (.d t96 x5)), (5, (.vec 403 t130)), (6, (.d t130 x6)), (20, (.d t96 x7)), (21, (.d t2 x8)), (22, (.d t2 x9)), (23, (.d t4 (decide (x9 < x8))))], [(403, (.vec 130 t130 x10))]⟩ [] (by kernel_rfl) (by kernel_rfl) trivial ?_
  refine Run.seqN (by kernel_rfl) ?_
  refine Run.condN (decide (x9 < x8)) (by kernel_rfl) (fun hb => ?_) (fun hb => ?_)
  · replace h := bif_t h hb
    refine Run.skipN (by kernel_rfl) ?_
    show Run Pg 53 _ _ _
    refine Run.seqN (by kernel_rfl) ?_
    refine Run.blockN 1 (by kernel_rfl) ?_
    obtain ⟨g_0, h⟩ := gd_elim h
    obtain ⟨g_1, h⟩ := gd_elim h
    refine Run.regN hX [] 800 [1, 5, 6, 7, 8, 20, 21, 22] [403] ⟨[(1, (.d t96 x5)), (5, (.vec 403 t130)), (6, (.d t130 x6)), (7, (.d t2 x9)), (8, (.d t130 (List.getD x7 (toN x9) (0 : Int)))), (20, (.d t96 x7)), (21, (.d t2 x8)), (22, (.d t2 x9))], [(403, (.vec 130 t130 x10))]⟩ [(0 ≤ x9), (x9 < ((List.length x7 : Nat) : Int))] (by kernel_rfl) (by kernel_rfl) ⟨g_0, g_1, trivial⟩ ?_
    refine Run.regN hX [] 900 [1, 5, 7, 8, 20, 21, 22] [403] ⟨[(1, (.d t96 x5)), (5, (.vec 403 t130)), (7, (.d t2 x9)), (8, (.d t130 (wrapI .u32 ((List.getD x7 (toN x9) (0 : Int)) + x6)))), (20, (.d t96 x7)), (21, (.d t2 x8)), (22, (.d t2 x9))], [(403, (.vec 130 t130 x10))]⟩ [] (by kernel_rfl) (by kernel_rfl) trivial ?_
    refine Run.seqN (by kernel_rfl) ?_
    refine Run.regN hX [] 1000 [1, 5, 7, 8, 20, 21, 22, 33] [403] ⟨[(1, (.d t96 x5)), (5, (.vec 403 t130)), (7, (.d t2 x9)), (8, (.d t130 (wrapI .u32 ((List.getD x7 (toN x9) (0 : Int)) + x6)))), (20, (.d t96 x7)), (21, (.d t2 x8)), (22, (.d t2 x9)), (33, (.d t4 (decide (x9 < (ofN (List.length x5))))))], [(403, (.vec 130 t130 x10))]⟩ [] (by kernel_rfl) (by kernel_rfl) trivial ?_
    obtain ⟨o35, h_o35, h⟩ := bnd_elim h
    refine Run.mono (f101_c2_ok x5 x9 (wrapI .u32 ((List.getD x7 (toN x9) (0 : Int)) + x6)) x7 x8 (decide (x9 < (ofN (List.length x5)))) x10 h_o35) ?_
    rintro x s ⟨hx, hs⟩
    subst hx
    subst hs
    show Run Pg 53 _ _ _
    refine Run.regN hX [] 1200 [1, 5, 6, 8, 20, 21, 22] [403] ⟨[(1, (.d t96 x5)), (5, (.vec 403 t130)), (6, (.d t130 (0 : Int))), (8, (.d t130 o35)), (20, (.d t96 x7)), (21, (.d t2 x8)), (22, (.d t2 x9))], [(403, (.vec 130 t130 x10))]⟩ [] (by kernel_rfl) (by kernel_rfl) trivial ?_
    refine Run.seqN (by kernel_rfl) ?_
    refine Run.regN hX [] 1300 [1, 5, 6, 8, 20, 21, 22, 41] [403] ⟨[(1, (.d t96 x5)), (5, (.vec 403 t130)), (6, (.d t130 (0 : Int))), (8, (.d t130 o35)), (20, (.d t96 x7)), (21, (.d t2 x8)), (22, (.d t2 x9)), (41, (.d t4 (decide ((1000000000 : Int) ≤ o35))))], [(403, (.vec 130 t130 x10))]⟩ [] (by kernel_rfl) (by kernel_rfl) trivial ?_
    obtain ⟨o44, h_o44, h⟩ := bnd_elim h
    refine Run.mono (f101_c3_ok x5 (0 : Int) o35 x7 x8 x9 (decide ((1000000000 : Int) ≤ o35)) x10 h_o44) ?_
    rintro x s ⟨hx, hs⟩
    subst hx
    subst hs
    show Run Pg 53 _ _ _
    obtain ⟨g_0, h⟩ := gd_elim h
    refine Run.regE hX [] 1500 [1, 5, 6, 20, 21, 22] [403] ⟨[(1, (.d t96 x5)), (5, (.vec 403 t130)), (6, (.d t130 o44.1)), (20, (.d t96 x7)), (21, (.d t2 x8)), (22, (.d t2 x9))], [(403, (.vec 130 t130 (x10 ++ ([o44.2] : List Int))))]⟩ [(List.length (x10 ++ ([o44.2] : List Int)) ≤ 1073741824)] (by kernel_rfl) ⟨g_0, trivial⟩ ?_
    show Run Pg 53 _ _ _
    refine Run.regE hX [] 1600 [1, 5, 6, 20, 21, 22] [403] ⟨[(1, (.d t96 x5)), (5, (.vec 403 t130)), (6, (.d t130 o44.1)), (20, (.d t96 x7)), (21, (.d t2 x8)), (22, (.d t2 (wrapI .i64 (x9 + (1 : Int)))))], [(403, (.vec 130 t130 (x10 ++ ([o44.2] : List Int))))]⟩ [] (by kernel_rfl) trivial ?_
    exact ⟨m, Nat.lt_succ_self m, _, _, _, rfl, h⟩
  · replace h := bif_f h hb
    refine Run.keep (s' := ⟨[(5, (.vec 403 t130)), (6, (.d t130 x6))], [(403, (.vec 130 t130 x10))]⟩) [5, 6] [403] (by kernel_rfl) ?_
    refine Run.exitN 0 (by kernel_rfl) ?_
    replace h := Option.some.inj h
    subst h
    exact ⟨rfl, by kernel_rfl⟩

def F101 (a0 : List Int) (a1 : List Int) : Option ((List Int)) :=
  ((f101_c0 a0 a1 (decide ((ofN (List.length a0)) < (ofN (List.length a1))))).bind fun o4 =>
    gd ((0 : Int) ≤ (wrapI .i64 ((ofN (List.length o4.1)) + (1 : Int)))) <|
    gd ((wrapI .i64 ((ofN (List.length o4.1)) + (1 : Int))) ≤ 1073741824) <|
    ((f101_l1 o4.2 o4.1 (ofN (List.length o4.1)) (2 + List.length o4.2 + List.length o4.1 + List.length (List.replicate (toN (0 : Int)) (0 : Int))) ((0 : Int), (0 : Int), (List.replicate (toN (0 : Int)) (0 : Int)))).bind fun o45 =>
      gd (List.length (o45.2 ++ ([o45.1] : List Int)) ≤ 1073741824) <|
      some (o45.2 ++ ([o45.1] : List Int))))

theorem c101 {a0 : List Int} {a1 : List Int} {r : (List Int)} (h : F101 a0 a1 = some r) : CallPure Pg 101 [(.d t96 a0), (.d t96 a1)] (.d t96 r) := by
  refine callPureN hX c_101 53 [.tmp 4] [96] Go.Proofs.Try.func101 (by kernel_rfl) (by kernel_rfl) (by kernel_rfl) (Nat.le_of_ble_eq_true rfl) rfl rfl ?_
  show Run Pg 53 c_101 ⟨[(0, (.d t96 a0)), (1, (.d t96 a1))], []⟩ (fin101 r)
  unfold F101 at h
  refine Run.regN hX [] 100 [0, 1] [] ⟨[(0, (.d t96 a0)), (1, (.d t96 a1))], []⟩ [] (by kernel_rfl) (by kernel_rfl) trivial ?_
  refine Run.seqN (by kernel_rfl) ?_
  refine Run.regN hX [] 200 [0, 1, 13] [] ⟨[(0, (.d t96 a0)), (1, (.d t96 a1)), (13, (.d t4 (decide ((ofN (List.length a0)) < (ofN (List.length a1))))))], []⟩ [] (by kernel_rfl) (by kernel_rfl) trivial ?_
  obtain ⟨o4, h_o4, h⟩ := bnd_elim h
  refine Run.mono (f101_c0_ok a0 a1 (decide ((ofN (List.length a0)) < (ofN (List.length a1)))) h_o4) ?_
  rintro x s ⟨hx, hs⟩
  subst hx
  subst hs
  show Run Pg 53 _ _ _
  obtain ⟨g_1, h⟩ := gd_elim h
  obtain ⟨g_2, h⟩ := gd_elim h
  refine Run.regN hX [] 400 [0, 1, 5] [403] ⟨[(0, (.d t96 o4.1)), (1, (.d t96 o4.2)), (5, (.vec 403 t130))], [(403, (.vec 130 t130 (List.replicate (toN (0 : Int)) (0 : Int))))]⟩ [(0 ≤ (0 : Int)), ((0 : Int) ≤ (wrapI .i64 ((ofN (List.length o4.1)) + (1 : Int)))), ((wrapI .i64 ((ofN (List.length o4.1)) + (1 : Int))) ≤ 1073741824)] (by kernel_rfl) (by kernel_rfl) ⟨(by decide), g_1, g_2, trivial⟩ ?_
  refine Run.regN hX [] 500 [0, 1, 5, 6] [403] ⟨[(0, (.d t96 o4.1)), (1, (.d t96 o4.2)), (5, (.vec 403 t130)), (6, (.d t130 (0 : Int)))], [(403, (.vec 130 t130 (List.replicate (toN (0 : Int)) (0 : Int))))]⟩ [] (by kernel_rfl) (by kernel_rfl) trivial ?_
  refine Run.seqN (by kernel_rfl) ?_
  refine Run.regN hX [] 600 [1, 5, 6, 20, 21, 22] [403] ⟨[(1, (.d t96 o4.2)), (5, (.vec 403 t130)), (6, (.d t130 (0 : Int))), (20, (.d t96 o4.1)), (21, (.d t2 (ofN (List.length o4.1)))), (22, (.d t2 (0 : Int)))], [(403, (.vec 130 t130 (List.replicate (toN (0 : Int)) (0 : Int))))]⟩ [] (by kernel_rfl) (by kernel_rfl) trivial ?_
  refine Run.blockN 0 (by kernel_rfl) ?_
  obtain ⟨o45, h_o45, h⟩ := bnd_elim h
  refine Run.mono (f101_l1_ok o4.2 o4.1 (ofN (List.length o4.1)) _ (0 : Int) (0 : Int) (List.replicate (toN (0 : Int)) (0 : Int)) h_o45) ?_
  rintro x s ⟨hx, hs⟩
  subst hx
  subst hs
  show Run Pg 53 _ _ _
  obtain ⟨g_0, h⟩ := gd_elim h
  refine Run.regN hX [] 1700 [4] [403] ⟨[(4, (.vec 403 t130))], [(403, (.vec 130 t130 (o45.2 ++ ([o45.1] : List Int))))]⟩ [(List.length (o45.2 ++ ([o45.1] : List Int)) ≤ 1073741824)] (by kernel_rfl) (by kernel_rfl) ⟨g_0, trivial⟩ ?_
  refine Run.freeze (s' := ⟨[(4, (.d t96 (o45.2 ++ ([o45.1] : List Int))))], []⟩) 403 (by kernel_rfl) ?_
  refine Run.retN (by kernel_rfl) ?_
  replace h := Option.some.inj h
  subst h
  exact ⟨[(.d t96 (o45.2 ++ ([o45.1] : List Int)))], by kernel_rfl, by kernel_rfl⟩

/-! ## f102 -/

noncomputable def c_102 : Code := body0 Go.Proofs.Try.f102

def fin102 (r : (List Int)) : Ex → St → Prop := endK X0 [.tmp 4] [96] (.d t96 r)

def f102_c1_post (x26 : List Int) (x27 : Int) (x28 : Int) (x29 : Int) (x30 : List Int) (x31 : Int) (x32 : Bool) (x33 : List Int) : (Int) → Ex → St → Prop
  | o, x, s => x = .nrm ∧ s = ⟨[(1, (.d t96 x26)), (5, (.vec 202 t130)), (7, (.d t2 x27)), (8, (.d t130 x28)), (9, (.d t130 o)), (13, (.d t96 x30)), (14, (.d t2 x31)), (15, (.d t2 x27))], [(202, (.vec 130 t130 x33))]⟩

def f102_c1 (x26 : List Int) (x27 : Int) (x29 : Int) (x32 : Bool) : Option (Int) :=
  (bif x32 then
    gd (0 ≤ x27) <|
    gd (x27 < ((List.length x26 : Nat) : Int)) <|
    some (wrapI .u32 (x29 + (List.getD x26 (toN x27) (0 : Int))))
  else
    some x29)

theorem f102_c1_ok (x26 : List Int) (x27 : Int) (x28 : Int) (x29 : Int) (x30 : List Int) (x31 : Int) (x32 : Bool) (x33 : List Int) {out : (Int)} (h : f102_c1 x26 x27 x29 x32 = some out) : Run Pg 44 (sq2 (sq1 (sq2 (sq2 (bk1 (sq1 (sq2 (sq2 (lp1 (bk1 (sq2 (sq1 (sq2 (sq2 (sq2 c_102))))))))))))))) ⟨[(1, (.d t96 x26)), (5, (.vec 202 t130)), (7, (.d t2 x27)), (8, (.d t130 x28)), (9, (.d t130 x29)), (13, (.d t96 x30)), (14, (.d t2 x31)), (15, (.d t2 x27)), (24, (.d t4 x32))], [(202, (.vec 130 t130 x33))]⟩ (f102_c1_post x26 x27 x28 x29 x30 x31 x32 x33 out) := by
  unfold f102_c1 at h
  refine Run.condN x32 (by kernel_rfl) (fun hb => ?_) (fun hb => ?_)
  · replace h := bif_t h hb
    obtain ⟨g_0, h⟩ := gd_elim h
    obtain ⟨g_1, h⟩ := gd_elim h
    refine Run.regE hX [] 900 [1, 5, 7, 8, 9, 13, 14, 15] [202] ⟨[(1, (.d t96 x26)), (5, (.vec 202 t130)), (7, (.d t2 x27)), (8, (.d t130 x28)), (9, (.d t130 (wrapI .u32 (x29 + (List.getD x26 (toN x27) (0 : Int)))))), (13, (.d t96 x30)), (14, (.d t2 x31)), (15, (.d t2 x27))], [(202, (.vec 130 t130 x33))]⟩ [(0 ≤ x27), (x27 < ((List.length x26 : Nat) : Int))] (by kernel_rfl) ⟨g_0, g_1, trivial⟩ ?_
    replace h := Option.some.inj h
    subst h
    exact ⟨rfl, by kernel_rfl⟩
  · replace h := bif_f h hb
    refine Run.keep (s' := ⟨[(1, (.d t96 x26)), (5, (.vec 202 t130)), (7, (.d t2 x27)), (8, (.d t130 x28)), (9, (.d t130 x29)), (13, (.d t96 x30)), (14, (.d t2 x31)), (15, (.d t2 x27))], [(202, (.vec 130 t130 x33))]⟩) [1, 5, 7, 8, 9, 13, 14, 15] [202] (by kernel_rfl) ?_
    refine Run.skipN (by kernel_rfl) ?_
    replace h := Option.some.inj h
    subst h
    exact ⟨rfl, by kernel_rfl⟩

def f102_c2_post (x35 : List Int) (x36 : Int) (x37 : Int) (x38 : Int) (x39 : Int) (x40 : List Int) (x41 : Int) (x42 : Bool) (x43 : List Int) : (Int × Int) → Ex → St → Prop
  | o, x, s => x = .nrm ∧ s = ⟨[(1, (.d t96 x35)), (5, (.vec 202 t130)), (6, (.d t130 o.1)), (7, (.d t2 x37)), (8, (.d t130 o.2)), (9, (.d t130 x39)), (13, (.d t96 x40)), (14, (.d t2 x41)), (15, (.d t2 x37))], [(202, (.vec 130 t130 x43))]⟩

def f102_c2 (x36 : Int) (x38 : Int) (x42 : Bool) : Option (Int × Int) :=
  (bif x42 then
    some ((1 : Int), (wrapI .u32 (x38 + (1000000000 : Int))))
  else
    some (x36, x38))

theorem f102_c2_ok (x35 : List Int) (x36 : Int) (x37 : Int) (x38 : Int) (x39 : Int) (x40 : List Int) (x41 : Int) (x42 : Bool) (x43 : List Int) {out : (Int × Int)} (h : f102_c2 x36 x38 x42 = some out) : Run Pg 44 (sq2 (sq1 (sq2 (sq2 (sq2 (sq2 (bk1 (sq1 (sq2 (sq2 (lp1 (bk1 (sq2 (sq1 (sq2 (sq2 (sq2 c_102))))))))))))))))) ⟨[(1, (.d t96 x35)), (5, (.vec 202 t130)), (6, (.d t130 x36)), (7, (.d t2 x37)), (8, (.d t130 x38)), (9, (.d t130 x39)), (13, (.d t96 x40)), (14, (.d t2 x41)), (15, (.d t2 x37)), (33, (.d t4 x42))], [(202, (.vec 130 t130 x43))]⟩ (f102_c2_post x35 x36 x37 x38 x39 x40 x41 x42 x43 out) := by
  unfold f102_c2 at h
  refine Run.condN x42 (by kernel_rfl) (fun hb => ?_) (fun hb => ?_)
  · replace h := bif_t h hb
    refine Run.regE hX [] 1200 [1, 5, 6, 7, 8, 9, 13, 14, 15] [202] ⟨[(1, (.d t96 x35)), (5, (.vec 202 t130)), (6, (.d t130 (1 : Int))), (7, (.d t2 x37)), (8, (.d t130 (wrapI .u32 (x38 + (1000000000 : Int))))), (9, (.d t130 x39)), (13, (.d t96 x40)), (14, (.d t2 x41)), (15, (.d t2 x37))], [(202, (.vec 130 t130 x43))]⟩ [] (by kernel_rfl) trivial ?_
    replace h := Option.some.inj h
    subst h
    exact ⟨rfl, by kernel_rfl⟩
  · replace h := bif_f h hb
    refine Run.keep (s' := ⟨[(1, (.d t96 x35)), (5, (.vec 202 t130)), (6, (.d t130 x36)), (7, (.d t2 x37)), (8, (.d t130 x38)), (9, (.d t130 x39)), (13, (.d t96 x40)), (14, (.d t2 x41)), (15, (.d t2 x37))], [(202, (.vec 130 t130 x43))]⟩) [1, 5, 6, 7, 8, 9, 13, 14, 15] [202] (by kernel_rfl) ?_
    refine Run.skipN (by kernel_rfl) ?_
    replace h := Option.some.inj h
    subst h
    exact ⟨rfl, by kernel_rfl⟩

def f102_l0_post (x1 : List Int) (x3 : List Int) (x4 : Int) : ((List Int)) → Ex → St → Prop
  | o, x, s => x = .out 0 ∧ s = ⟨[(5, (.vec 202 t130))], [(202, (.vec 130 t130 o))]⟩

def f102_l0_b (x1 : List Int) (x3 : List Int) (x4 : Int) (again : Int × Int × (List Int) → Option ((List Int))) : Int × Int × (List Int) → Option ((List Int))
  | (x2, x5, x6) =>
    (bif (decide (x5 < x4)) then
      gd (0 ≤ x5) <|
      gd (x5 < ((List.length x3 : Nat) : Int)) <|
      ((f102_c1 x1 x5 x2 (decide (x5 < (ofN (List.length x1))))).bind fun o34 =>
        ((f102_c2 (0 : Int) (List.getD x3 (toN x5) (0 : Int)) (decide ((List.getD x3 (toN x5) (0 : Int)) < o34))).bind fun o44 =>
          gd (0 ≤ x5) <|
          gd (x5 < ((List.length x6 : Nat) : Int)) <|
          gd ((toN x5) < List.length x6) <|
          again (o44.1, (wrapI .i64 (x5 + (1 : Int))), (List.set x6 (toN x5) (wrapI .u32 (o44.2 - o34))))))
    else
      some x6)

def f102_l0 (x1 : List Int) (x3 : List Int) (x4 : Int) : Nat → Int × Int × (List Int) → Option ((List Int)) := loopF (f102_l0_b x1 x3 x4)

theorem f102_l0_ok (x1 : List Int) (x3 : List Int) (x4 : Int) (k : Nat) (x2 : Int) (x5 : Int) (x6 : List Int) {out : ((List Int))} (h : f102_l0 x1 x3 x4 k (x2, x5, x6) = some out) : Run Pg 44 (bk1 (sq2 (sq1 (sq2 (sq2 (sq2 c_102)))))) ⟨[(1, (.d t96 x1)), (5, (.vec 202 t130)), (6, (.d t130 x2)), (13, (.d t96 x3)), (14, (.d t2 x4)), (15, (.d t2 x5))], [(202, (.vec 130 t130 x6))]⟩ (f102_l0_post x1 x3 x4 out) := by
  refine Run.loopN (by kernel_rfl) (fun m s => ∃ x2 x5 x6, s = ⟨[(1, (.d t96 x1)), (5, (.vec 202 t130)), (6, (.d t130 x2)), (13, (.d t96 x3)), (14, (.d t2 x4)), (15, (.d t2 x5))], [(202, (.vec 130 t130 x6))]⟩ ∧ f102_l0 x1 x3 x4 m (x2, x5, x6) = some out) ?_ k ⟨x2, x5, x6,  rfl, h⟩
  rintro m s ⟨x2, x5, x6,  rfl, h⟩
  cases m with
  | zero => cases h
  | succ m =>
  replace h : f102_l0_b x1 x3 x4 (f102_l0 x1 x3 x4 m) (x2, x5, x6) = some out := h
  unfold f102_l0_b at h
  refine Run.regN hX [] 500 [1, 5, 6, 13, 14, 15, 16] [202] ⟨[(1, (.d t96 x1)), (5, (.vec 202 t130)), (6, (.d t130 x2)), (13, (.d t96 x3)), (14, (.d t2 x4)), (15, (.d t2 x5)), (16, (.d t4 (decide (x5 < x4))))], [(202, (.vec 130 t130 x6))]⟩ [] (by kernel_rfl) (by kernel_rfl) trivial ?_
  refine Run.seqN (by kernel_rfl) ?_
  refine Run.condN (decide (x5 < x4)) (by kernel_rfl) (fun hb => ?_) (fun hb => ?_)
  · replace h := bif_t h hb
    refine Run.skipN (by kernel_rfl) ?_
    show Run Pg 44 _ _ _
    refine Run.seqN (by kernel_rfl) ?_
    refine Run.blockN 1 (by kernel_rfl) ?_
    obtain ⟨g_0, h⟩ := gd_elim h
    obtain ⟨g_1, h⟩ := gd_elim h
    refine Run.regN hX [] 600 [1, 5, 6, 7, 8, 13, 14, 15] [202] ⟨[(1, (.d t96 x1)), (5, (.vec 202 t130)), (6, (.d t130 x2)), (7, (.d t2 x5)), (8, (.d t130 (List.getD x3 (toN x5) (0 : Int)))), (13, (.d t96 x3)), (14, (.d t2 x4)), (15, (.d t2 x5))], [(202, (.vec 130 t130 x6))]⟩ [(0 ≤ x5), (x5 < ((List.length x3 : Nat) : Int))] (by kernel_rfl) (by kernel_rfl) ⟨g_0, g_1, trivial⟩ ?_
    refine Run.regN hX [] 700 [1, 5, 7, 8, 9, 13, 14, 15] [202] ⟨[(1, (.d t96 x1)), (5, (.vec 202 t130)), (7, (.d t2 x5)), (8, (.d t130 (List.getD x3 (toN x5) (0 : Int)))), (9, (.d t130 x2)), (13, (.d t96 x3)), (14, (.d t2 x4)), (15, (.d t2 x5))], [(202, (.vec 130 t130 x6))]⟩ [] (by kernel_rfl) (by kernel_rfl) trivial ?_
    refine Run.seqN (by kernel_rfl) ?_
    refine Run.regN hX [] 800 [1, 5, 7, 8, 9, 13, 14, 15, 24] [202] ⟨[(1, (.d t96 x1)), (5, (.vec 202 t130)), (7, (.d t2 x5)), (8, (.d t130 (List.getD x3 (toN x5) (0 : Int)))), (9, (.d t130 x2)), (13, (.d t96 x3)), (14, (.d t2 x4)), (15, (.d t2 x5)), (24, (.d t4 (decide (x5 < (ofN (List.length x1))))))], [(202, (.vec 130 t130 x6))]⟩ [] (by kernel_rfl) (by kernel_rfl) trivial ?_
    obtain ⟨o34, h_o34, h⟩ := bnd_elim h
    refine Run.mono (f102_c1_ok x1 x5 (List.getD x3 (toN x5) (0 : Int)) x2 x3 x4 (decide (x5 < (ofN (List.length x1)))) x6 h_o34) ?_
    rintro x s ⟨hx, hs⟩
    subst hx
    subst hs
    show Run Pg 44 _ _ _
    refine Run.regN hX [] 1000 [1, 5, 6, 7, 8, 9, 13, 14, 15] [202] ⟨[(1, (.d t96 x1)), (5, (.vec 202 t130)), (6, (.d t130 (0 : Int))), (7, (.d t2 x5)), (8, (.d t130 (List.getD x3 (toN x5) (0 : Int)))), (9, (.d t130 o34)), (13, (.d t96 x3)), (14, (.d t2 x4)), (15, (.d t2 x5))], [(202, (.vec 130 t130 x6))]⟩ [] (by kernel_rfl) (by kernel_rfl) trivial ?_
    refine Run.seqN (by kernel_rfl) ?_
    refine Run.regN hX [] 1100 [1, 5, 6, 7, 8, 9, 13, 14, 15, 33] [202] ⟨[(1, (.d t96 x1)), (5, (.vec 202 t130)), (6, (.d t130 (0 : Int))), (7, (.d t2 x5)), (8, (.d t130 (List.getD x3 (toN x5) (0 : Int)))), (9, (.d t130 o34)), (13, (.d t96 x3)), (14, (.d t2 x4)), (15, (.d t2 x5)), (33, (.d t4 (decide ((List.getD x3 (toN x5) (0 : Int)) < o34))))], [(202, (.vec 130 t130 x6))]⟩ [] (by kernel_rfl) (by kernel_rfl) trivial ?_
    obtain ⟨o44, h_o44, h⟩ := bnd_elim h
    refine Run.mono (f102_c2_ok x1 (0 : Int) x5 (List.getD x3 (toN x5) (0 : Int)) o34 x3 x4 (decide ((List.getD x3 (toN x5) (0 : Int)) < o34)) x6 h_o44) ?_
    rintro x s ⟨hx, hs⟩
    subst hx
    subst hs
    show Run Pg 44 _ _ _
    obtain ⟨g_0, h⟩ := gd_elim h
    obtain ⟨g_1, h⟩ := gd_elim h
    obtain ⟨g_2, h⟩ := gd_elim h
    refine Run.regE hX [] 1300 [1, 5, 6, 13, 14, 15] [202] ⟨[(1, (.d t96 x1)), (5, (.vec 202 t130)), (6, (.d t130 o44.1)), (13, (.d t96 x3)), (14, (.d t2 x4)), (15, (.d t2 x5))], [(202, (.vec 130 t130 (List.set x6 (toN x5) (wrapI .u32 (o44.2 - o34)))))]⟩ [(0 ≤ x5), (x5 < ((List.length x6 : Nat) : Int)), ((toN x5) < List.length x6)] (by kernel_rfl) ⟨g_0, g_1, g_2, trivial⟩ ?_
    show Run Pg 44 _ _ _
    refine Run.regE hX [] 1400 [1, 5, 6, 13, 14, 15] [202] ⟨[(1, (.d t96 x1)), (5, (.vec 202 t130)), (6, (.d t130 o44.1)), (13, (.d t96 x3)), (14, (.d t2 x4)), (15, (.d t2 (wrapI .i64 (x5 + (1 : Int)))))], [(202, (.vec 130 t130 (List.set x6 (toN x5) (wrapI .u32 (o44.2 - o34)))))]⟩ [] (by kernel_rfl) trivial ?_
    exact ⟨m, Nat.lt_succ_self m, _, _, _, rfl, h⟩
  · replace h := bif_f h hb
    refine Run.keep (s' := ⟨[(5, (.vec 202 t130))], [(202, (.vec 130 t130 x6))]⟩) [5] [202] (by kernel_rfl) ?_
    refine Run.exitN 0 (by kernel_rfl) ?_
    replace h := Option.some.inj h
    subst h
    exact ⟨rfl, by kernel_rfl⟩

def F102 (a0 : List Int) (a1 : List Int) : Option ((List Int)) :=
  gd (0 ≤ (ofN (List.length a0))) <|
  gd ((ofN (List.length a0)) ≤ (ofN (List.length a0))) <|
  gd ((ofN (List.length a0)) ≤ 1073741824) <|
  ((f102_l0 a1 a0 (ofN (List.length a0)) (2 + List.length a1 + List.length a0 + List.length (List.replicate (toN (ofN (List.length a0))) (0 : Int))) ((0 : Int), (0 : Int), (List.replicate (toN (ofN (List.length a0))) (0 : Int)))).bind fun o45 =>
    some o45)

theorem c102 {a0 : List Int} {a1 : List Int} {r : (List Int)} (h : F102 a0 a1 = some r) : CallPure Pg 102 [(.d t96 a0), (.d t96 a1)] (.d t96 r) := by
  refine callPureN hX c_102 44 [.tmp 4] [96] Go.Proofs.Try.func102 (by kernel_rfl) (by kernel_rfl) (by kernel_rfl) (Nat.le_of_ble_eq_true rfl) rfl rfl ?_
  show Run Pg 44 c_102 ⟨[(0, (.d t96 a0)), (1, (.d t96 a1))], []⟩ (fin102 r)
  unfold F102 at h
  refine Run.regN hX [] 100 [0, 1] [] ⟨[(0, (.d t96 a0)), (1, (.d t96 a1))], []⟩ [] (by kernel_rfl) (by kernel_rfl) trivial ?_
  obtain ⟨g_0, h⟩ := gd_elim h
  obtain ⟨g_1, h⟩ := gd_elim h
  obtain ⟨g_2, h⟩ := gd_elim h
  refine Run.regN hX [] 200 [0, 1, 5] [202] ⟨[(0, (.d t96 a0)), (1, (.d t96 a1)), (5, (.vec 202 t130))], [(202, (.vec 130 t130 (List.replicate (toN (ofN (List.length a0))) (0 : Int))))]⟩ [(0 ≤ (ofN (List.length a0))), ((ofN (List.length a0)) ≤ (ofN (List.length a0))), ((ofN (List.length a0)) ≤ 1073741824)] (by kernel_rfl) (by kernel_rfl) ⟨g_0, g_1, g_2, trivial⟩ ?_
  refine Run.regN hX [] 300 [0, 1, 5, 6] [202] ⟨[(0, (.d t96 a0)), (1, (.d t96 a1)), (5, (.vec 202 t130)), (6, (.d t130 (0 : Int)))], [(202, (.vec 130 t130 (List.replicate (toN (ofN (List.length a0))) (0 : Int))))]⟩ [] (by kernel_rfl) (by kernel_rfl) trivial ?_
  refine Run.seqN (by kernel_rfl) ?_
  refine Run.regN hX [] 400 [1, 5, 6, 13, 14, 15] [202] ⟨[(1, (.d t96 a1)), (5, (.vec 202 t130)), (6, (.d t130 (0 : Int))), (13, (.d t96 a0)), (14, (.d t2 (ofN (List.length a0)))), (15, (.d t2 (0 : Int)))], [(202, (.vec 130 t130 (List.replicate (toN (ofN (List.length a0))) (0 : Int))))]⟩ [] (by kernel_rfl) (by kernel_rfl) trivial ?_
  refine Run.blockN 0 (by kernel_rfl) ?_
  obtain ⟨o45, h_o45, h⟩ := bnd_elim h
  refine Run.mono (f102_l0_ok a1 a0 (ofN (List.length a0)) _ (0 : Int) (0 : Int) (List.replicate (toN (ofN (List.length a0))) (0 : Int)) h_o45) ?_
  rintro x s ⟨hx, hs⟩
  subst hx
  subst hs
  show Run Pg 44 _ _ _
  refine Run.regN hX [] 1500 [4] [202] ⟨[(4, (.vec 202 t130))], [(202, (.vec 130 t130 o45))]⟩ [] (by kernel_rfl) (by kernel_rfl) trivial ?_
  refine Run.freeze (s' := ⟨[(4, (.d t96 o45))], []⟩) 202 (by kernel_rfl) ?_
  refine Run.retN (by kernel_rfl) ?_
  replace h := Option.some.inj h
  subst h
  exact ⟨[(.d t96 o45)], by kernel_rfl, by kernel_rfl⟩

/-! ## f98 -/

noncomputable def c_98 : Code := body0 Go.Proofs.Try.f98

def fin98 (r : (Bool × (List Int))) : Ex → St → Prop := endK X0 [.cell 4 98] [98] (.d t97 r)

def f98_c0_post (x4 : Bool) (x5 : Bool × (List Int)) (x6 : Bool × (List Int)) (x7 : Bool × (List Int)) : ((Bool × (List Int)) × (Bool × (List Int))) → Ex → St → Prop
  | o, x, s => x = .nrm ∧ s = ⟨[(2, (.ptr 100 0)), (3, (.ptr 101 0)), (4, (.ptr 102 0))], [(100, (.box (.vcons (.d t97 o.1) .vnil))), (101, (.box (.vcons (.d t97 o.2) .vnil))), (102, (.box (.vcons (.d t97 x7) .vnil)))]⟩

def f98_c0 (x4 : Bool) (x5 : Bool × (List Int)) (x6 : Bool × (List Int)) : Option ((Bool × (List Int)) × (Bool × (List Int))) :=
  (bif x4 then
    some (x6, x5)
  else
    some (x5, x6))

theorem f98_c0_ok (x4 : Bool) (x5 : Bool × (List Int)) (x6 : Bool × (List Int)) (x7 : Bool × (List Int)) {out : ((Bool × (List Int)) × (Bool × (List Int)))} (h : f98_c0 x4 x5 x6 = some out) : Run Pg 34 (sq2 (sq1 (sq2 (sq2 c_98)))) ⟨[(2, (.ptr 100 0)), (3, (.ptr 101 0)), (4, (.ptr 102 0)), (23, (.d t4 x4))], [(100, (.box (.vcons (.d t97 x5) .vnil))), (101, (.box (.vcons (.d t97 x6) .vnil))), (102, (.box (.vcons (.d t97 x7) .vnil)))]⟩ (f98_c0_post x4 x5 x6 x7 out) := by
  unfold f98_c0 at h
  refine Run.condN x4 (by kernel_rfl) (fun hb => ?_) (fun hb => ?_)
  · replace h := bif_t h hb
    refine Run.regE hX [] 500 [2, 3, 4] [100, 101, 102] ⟨[(2, (.ptr 100 0)), (3, (.ptr 101 0)), (4, (.ptr 102 0))], [(100, (.box (.vcons (.d t97 x6) .vnil))), (101, (.box (.vcons (.d t97 x5) .vnil))), (102, (.box (.vcons (.d t97 x7) .vnil)))]⟩ [] (by kernel_rfl) trivial ?_
    replace h := Option.some.inj h
    subst h
    exact ⟨rfl, by kernel_rfl⟩
  · replace h := bif_f h hb
    refine Run.keep (s' := ⟨[(2, (.ptr 100 0)), (3, (.ptr 101 0)), (4, (.ptr 102 0))], [(100, (.box (.vcons (.d t97 x5) .vnil))), (101, (.box (.vcons (.d t97 x6) .vnil))), (102, (.box (.vcons (.d t97 x7) .vnil)))]⟩) [2, 3, 4] [100, 101, 102] (by kernel_rfl) ?_
    refine Run.skipN (by kernel_rfl) ?_
    replace h := Option.some.inj h
    subst h
    exact ⟨rfl, by kernel_rfl⟩

def F98 (a0 : Bool × (List Int)) (a1 : Bool × (List Int)) : Option ((Bool × (List Int))) :=
  (bif (a0.1 == a1.1) then
    (F101 a0.2 a1.2).bind fun y1 =>
    (F73 a0.1 y1).bind fun y2 =>
    some y2
  else
    (F81 a0.2 a1.2).bind fun y3 =>
    ((f98_c0 (decide (y3 < (0 : Int))) a0 a1).bind fun o8 =>
      (F102 o8.1.2 o8.2.2).bind fun y9 =>
      (F73 o8.1.1 y9).bind fun y10 =>
      some y10))

theorem c98 {a0 : Bool × (List Int)} {a1 : Bool × (List Int)} {r : (Bool × (List Int))} (h : F98 a0 a1 = some r) : CallPure Pg 98 [(.d t97 a0), (.d t97 a1)] (.d t97 r) := by
  refine callPureN hX c_98 34 [.cell 4 98] [98] Go.Proofs.Try.func98 (by kernel_rfl) (by kernel_rfl) (by kernel_rfl) (Nat.le_of_ble_eq_true rfl) rfl rfl ?_
  show Run Pg 34 c_98 ⟨[(0, (.d t97 a0)), (1, (.d t97 a1))], []⟩ (fin98 r)
  unfold F98 at h
  refine Run.regN hX [] 100 [2, 3, 4] [100, 101, 102] ⟨[(2, (.ptr 100 0)), (3, (.ptr 101 0)), (4, (.ptr 102 0))], [(100, (.box (.vcons (.d t97 a0) .vnil))), (101, (.box (.vcons (.d t97 a1) .vnil))), (102, (.box (.vcons (.d t97 (false, ([] : List Int))) .vnil)))]⟩ [] (by kernel_rfl) (by kernel_rfl) trivial ?_
  refine Run.seqN (by kernel_rfl) ?_
  refine Run.regN hX [] 200 [2, 3, 4, 9] [100, 101, 102] ⟨[(2, (.ptr 100 0)), (3, (.ptr 101 0)), (4, (.ptr 102 0)), (9, (.d t4 (a0.1 == a1.1)))], [(100, (.box (.vcons (.d t97 a0) .vnil))), (101, (.box (.vcons (.d t97 a1) .vnil))), (102, (.box (.vcons (.d t97 (false, ([] : List Int))) .vnil)))]⟩ [] (by kernel_rfl) (by kernel_rfl) trivial ?_
  refine Run.condN (a0.1 == a1.1) (by kernel_rfl) (fun hb => ?_) (fun hb => ?_)
  · replace h := bif_t h hb
    obtain ⟨y1, h_y1, h⟩ := bnd_elim h
    obtain ⟨y2, h_y2, h⟩ := bnd_elim h
    refine Run.regN hX [(6, .call (.d t96 y1)), (7, .call (.d t97 y2))] 300 [4] [102] ⟨[(4, (.ptr 102 0))], [(102, (.box (.vcons (.d t97 y2) .vnil)))]⟩ [CallPure Pg 101 [(.d t96 a0.2), (.d t96 a1.2)] (.d t96 y1), CallPure Pg 73 [(.d t4 a0.1), (.d t96 y1)] (.d t97 y2)] (by kernel_rfl) (by kernel_rfl) ⟨(c101 h_y1), (c73 h_y2), trivial⟩ ?_
    refine Run.retN (by kernel_rfl) ?_
    replace h := Option.some.inj h
    subst h
    exact ⟨[(.d t97 y2)], by kernel_rfl, by kernel_rfl⟩
  · replace h := bif_f h hb
    refine Run.skipN (by kernel_rfl) ?_
    show Run Pg 34 _ _ _
    refine Run.seqN (by kernel_rfl) ?_
    obtain ⟨y3, h_y3, h⟩ := bnd_elim h
    refine Run.regN hX [(4, .call (.d t2 y3))] 400 [2, 3, 4, 23] [100, 101, 102] ⟨[(2, (.ptr 100 0)), (3, (.ptr 101 0)), (4, (.ptr 102 0)), (23, (.d t4 (decide (y3 < (0 : Int)))))], [(100, (.box (.vcons (.d t97 a0) .vnil))), (101, (.box (.vcons (.d t97 a1) .vnil))), (102, (.box (.vcons (.d t97 (false, ([] : List Int))) .vnil)))]⟩ [CallPure Pg 81 [(.d t96 a0.2), (.d t96 a1.2)] (.d t2 y3)] (by kernel_rfl) (by kernel_rfl) ⟨(c81 h_y3), trivial⟩ ?_
    obtain ⟨o8, h_o8, h⟩ := bnd_elim h
    refine Run.mono (f98_c0_ok (decide (y3 < (0 : Int))) a0 a1 (false, ([] : List Int)) h_o8) ?_
    rintro x s ⟨hx, hs⟩
    subst hx
    subst hs
    show Run Pg 34 _ _ _
    obtain ⟨y9, h_y9, h⟩ := bnd_elim h
    obtain ⟨y10, h_y10, h⟩ := bnd_elim h
    refine Run.regN hX [(6, .call (.d t96 y9)), (7, .call (.d t97 y10))] 600 [4] [102] ⟨[(4, (.ptr 102 0))], [(102, (.box (.vcons (.d t97 y10) .vnil)))]⟩ [CallPure Pg 102 [(.d t96 o8.1.2), (.d t96 o8.2.2)] (.d t96 y9), CallPure Pg 73 [(.d t4 o8.1.1), (.d t96 y9)] (.d t97 y10)] (by kernel_rfl) (by kernel_rfl) ⟨(c102 h_y9), (c73 h_y10), trivial⟩ ?_
    refine Run.retN (by kernel_rfl) ?_
    replace h := Option.some.inj h
    subst h
    exact ⟨[(.d t97 y10)], by kernel_rfl, by kernel_rfl⟩

/-! ## f97 -/

noncomputable def c_97 : Code := body0 Go.Proofs.Try.f97

def fin97 (r : (Bool × (List Int))) : Ex → St → Prop := endK X0 [.cell 4 98] [98] (.d t97 r)

def F97 (a0 : Bool × (List Int)) (a1 : Bool × (List Int)) : Option ((Bool × (List Int))) :=
  (bif (!a1.1) then
    (F98 a0 ((decide ((0 : Int) < (ofN (List.length a1.2)))), a1.2)).bind fun y1 =>
    some y1
  else
    (F98 a0 (false, a1.2)).bind fun y2 =>
    some y2)

theorem c97 {a0 : Bool × (List Int)} {a1 : Bool × (List Int)} {r : (Bool × (List Int))} (h : F97 a0 a1 = some r) : CallPure Pg 97 [(.d t97 a0), (.d t97 a1)] (.d t97 r) := by
  refine callPureN hX c_97 18 [.cell 4 98] [98] Go.Proofs.Try.func97 (by kernel_rfl) (by kernel_rfl) (by kernel_rfl) (Nat.le_of_ble_eq_true rfl) rfl rfl ?_
  show Run Pg 18 c_97 ⟨[(0, (.d t97 a0)), (1, (.d t97 a1))], []⟩ (fin97 r)
  unfold F97 at h
  refine Run.regN hX [] 100 [2, 3, 4] [100, 101, 102] ⟨[(2, (.ptr 100 0)), (3, (.ptr 101 0)), (4, (.ptr 102 0))], [(100, (.box (.vcons (.d t97 a0) .vnil))), (101, (.box (.vcons (.d t97 a1) .vnil))), (102, (.box (.vcons (.d t97 (false, ([] : List Int))) .vnil)))]⟩ [] (by kernel_rfl) (by kernel_rfl) trivial ?_
  rcases bif_elim h with ⟨hb0, h⟩ | ⟨hb0, h⟩
  · refine Run.regN hX [(3, .b true)] 200 [2, 3, 4] [100, 101, 102] ⟨[(2, (.ptr 100 0)), (3, (.ptr 101 0)), (4, (.ptr 102 0))], [(100, (.box (.vcons (.d t97 a0) .vnil))), (101, (.box (.vcons (.d t97 ((decide ((0 : Int) < (ofN (List.length a1.2)))), a1.2)) .vnil))), (102, (.box (.vcons (.d t97 (false, ([] : List Int))) .vnil)))]⟩ [(!a1.1) = true] (by kernel_rfl) (by kernel_rfl) ⟨hb0, trivial⟩ ?_
    obtain ⟨y1, h_y1, h⟩ := bnd_elim h
    refine Run.regN hX [(2, .call (.d t97 y1))] 300 [4] [102] ⟨[(4, (.ptr 102 0))], [(102, (.box (.vcons (.d t97 y1) .vnil)))]⟩ [CallPure Pg 98 [(.d t97 a0), (.d t97 ((decide ((0 : Int) < (ofN (List.length a1.2)))), a1.2))] (.d t97 y1)] (by kernel_rfl) (by kernel_rfl) ⟨(c98 h_y1), trivial⟩ ?_
    refine Run.retN (by kernel_rfl) ?_
    replace h := Option.some.inj h
    subst h
    exact ⟨[(.d t97 y1)], by kernel_rfl, by kernel_rfl⟩
  · refine Run.regN hX [(3, .b false)] 200 [2, 3, 4] [100, 101, 102] ⟨[(2, (.ptr 100 0)), (3, (.ptr 101 0)), (4, (.ptr 102 0))], [(100, (.box (.vcons (.d t97 a0) .vnil))), (101, (.box (.vcons (.d t97 (false, a1.2)) .vnil))), (102, (.box (.vcons (.d t97 (false, ([] : List Int))) .vnil)))]⟩ [(!a1.1) = false] (by kernel_rfl) (by kernel_rfl) ⟨hb0, trivial⟩ ?_
    obtain ⟨y2, h_y2, h⟩ := bnd_elim h
    refine Run.regN hX [(2, .call (.d t97 y2))] 300 [4] [102] ⟨[(4, (.ptr 102 0))], [(102, (.box (.vcons (.d t97 y2) .vnil)))]⟩ [CallPure Pg 98 [(.d t97 a0), (.d t97 (false, a1.2))] (.d t97 y2)] (by kernel_rfl) (by kernel_rfl) ⟨(c98 h_y2), trivial⟩ ?_
    refine Run.retN (by kernel_rfl) ?_
    replace h := Option.some.inj h
    subst h
    exact ⟨[(.d t97 y2)], by kernel_rfl, by kernel_rfl⟩

/-! ## f89 -/

noncomputable def c_89 : Code := body0 Go.Proofs.Try.f89

def fin89 (r : (Bool × (List Int)) × (Bool × (List Int)) × Int) : Ex → St → Prop := endK X0 [.cell 4 98, .cell 5 98, .tmp 6] [98, 98, 32] (.tup (.vcons (.d t97 r.1) (.vcons (.d t97 r.2.1) (.vcons (.d t2 r.2.2) .vnil))))

def f89_c0_post (x4 : Bool) (x5 : Bool × (List Int)) (x6 : Bool × (List Int)) (x7 : Bool × (List Int)) (x8 : Bool × (List Int)) : ((Bool × (List Int)) × (Bool × (List Int))) → Ex → St → Prop
  | o, x, s => x = .nrm ∧ s = ⟨[(4, (.ptr 102 0)), (5, (.ptr 103 0)), (9, (.ptr 511 0)), (10, (.ptr 512 0))], [(102, (.box (.vcons (.d t97 x6) .vnil))), (103, (.box (.vcons (.d t97 x6) .vnil))), (511, (.box (.vcons (.d t97 o.1) .vnil))), (512, (.box (.vcons (.d t97 o.2) .vnil)))]⟩

def f89_c0 (x4 : Bool) (x5 : Bool × (List Int)) (x7 : Bool × (List Int)) (x8 : Bool × (List Int)) : Option ((Bool × (List Int)) × (Bool × (List Int))) :=
  (bif x4 then
    (F64 (1 : Int)).bind fun y12 =>
    (F97 x7 y12).bind fun y13 =>
    (F98 x8 x5).bind fun y14 =>
    some (y13, y14)
  else
    some (x7, x8))

theorem f89_c0_ok (x4 : Bool) (x5 : Bool × (List Int)) (x6 : Bool × (List Int)) (x7 : Bool × (List Int)) (x8 : Bool × (List Int)) {out : ((Bool × (List Int)) × (Bool × (List Int)))} (h : f89_c0 x4 x5 x7 x8 = some out) : Run Pg 55 (sq2 (sq1 (sq2 (sq2 (sq2 (sq2 c_89)))))) ⟨[(3, (.ptr 101 0)), (4, (.ptr 102 0)), (5, (.ptr 103 0)), (9, (.ptr 511 0)), (10, (.ptr 512 0)), (46, (.d t4 x4))], [(101, (.box (.vcons (.d t97 x5) .vnil))), (102, (.box (.vcons (.d t97 x6) .vnil))), (103, (.box (.vcons (.d t97 x6) .vnil))), (511, (.box (.vcons (.d t97 x7) .vnil))), (512, (.box (.vcons (.d t97 x8) .vnil)))]⟩ (f89_c0_post x4 x5 x6 x7 x8 out) := by
  unfold f89_c0 at h
  refine Run.condN x4 (by kernel_rfl) (fun hb => ?_) (fun hb => ?_)
  · replace h := bif_t h hb
    obtain ⟨y12, h_y12, h⟩ := bnd_elim h
    obtain ⟨y13, h_y13, h⟩ := bnd_elim h
    obtain ⟨y14, h_y14, h⟩ := bnd_elim h
    refine Run.regE hX [(1, .call (.d t97 y12)), (2, .call (.d t97 y13)), (5, .call (.d t97 y14))] 700 [4, 5, 9, 10] [102, 103, 511, 512] ⟨[(4, (.ptr 102 0)), (5, (.ptr 103 0)), (9, (.ptr 511 0)), (10, (.ptr 512 0))], [(102, (.box (.vcons (.d t97 x6) .vnil))), (103, (.box (.vcons (.d t97 x6) .vnil))), (511, (.box (.vcons (.d t97 y13) .vnil))), (512, (.box (.vcons (.d t97 y14) .vnil)))]⟩ [CallPure Pg 64 [(.d t2 (1 : Int))] (.d t97 y12), CallPure Pg 97 [(.d t97 x7), (.d t97 y12)] (.d t97 y13), CallPure Pg 98 [(.d t97 x8), (.d t97 x5)] (.d t97 y14)] (by kernel_rfl) ⟨(c64 h_y12), (c97 h_y13), (c98 h_y14), trivial⟩ ?_
    replace h := Option.some.inj h
    subst h
    exact ⟨rfl, by kernel_rfl⟩
  · replace h := bif_f h hb
    refine Run.keep (s' := ⟨[(4, (.ptr 102 0)), (5, (.ptr 103 0)), (9, (.ptr 511 0)), (10, (.ptr 512 0))], [(102, (.box (.vcons (.d t97 x6) .vnil))), (103, (.box (.vcons (.d t97 x6) .vnil))), (511, (.box (.vcons (.d t97 x7) .vnil))), (512, (.box (.vcons (.d t97 x8) .vnil)))]⟩) [4, 5, 9, 10] [102, 103, 511, 512] (by kernel_rfl) ?_
    refine Run.skipN (by kernel_rfl) ?_
    replace h := Option.some.inj h
    subst h
    exact ⟨rfl, by kernel_rfl⟩

def F89 (a0 : Bool × (List Int)) (a1 : Bool × (List Int)) : Option ((Bool × (List Int)) × (Bool × (List Int)) × Int) :=
  (bif ((ofN (List.length a1.2)) == (0 : Int)) then
    some ((false, ([] : List Int)), (false, ([] : List Int)), (6 : Int))
  else
    (F88 a0.2 a1.2).bind fun y1 =>
    (F73 (!(a0.1 == a1.1)) y1.1).bind fun y2 =>
    (F73 a0.1 y1.2).bind fun y3 =>
    (bif (decide ((0 : Int) < (ofN (List.length y3.2)))) then
      ((f89_c0 (!(y3.1 == a1.1)) a1 y2 y3).bind fun o15 =>
        some (o15.1, o15.2, (0 : Int)))
    else
      some (y2, y3, (0 : Int))))

theorem c89 {a0 : Bool × (List Int)} {a1 : Bool × (List Int)} {r : (Bool × (List Int)) × (Bool × (List Int)) × Int} (h : F89 a0 a1 = some r) : CallPure Pg 89 [(.d t97 a0), (.d t97 a1)] (.tup (.vcons (.d t97 r.1) (.vcons (.d t97 r.2.1) (.vcons (.d t2 r.2.2) .vnil)))) := by
  refine callPureN hX c_89 55 [.cell 4 98, .cell 5 98, .tmp 6] [98, 98, 32] Go.Proofs.Try.func89 (by kernel_rfl) (by kernel_rfl) (by kernel_rfl) (Nat.le_of_ble_eq_true rfl) rfl rfl ?_
  show Run Pg 55 c_89 ⟨[(0, (.d t97 a0)), (1, (.d t97 a1))], []⟩ (fin89 r)
  unfold F89 at h
  refine Run.regN hX [] 100 [2, 3, 4, 5] [100, 101, 102, 103] ⟨[(2, (.ptr 100 0)), (3, (.ptr 101 0)), (4, (.ptr 102 0)), (5, (.ptr 103 0))], [(100, (.box (.vcons (.d t97 a0) .vnil))), (101, (.box (.vcons (.d t97 a1) .vnil))), (102, (.box (.vcons (.d t97 (false, ([] : List Int))) .vnil))), (103, (.box (.vcons (.d t97 (false, ([] : List Int))) .vnil)))]⟩ [] (by kernel_rfl) (by kernel_rfl) trivial ?_
  refine Run.seqN (by kernel_rfl) ?_
  refine Run.regN hX [] 200 [2, 3, 4, 5, 14] [100, 101, 102, 103] ⟨[(2, (.ptr 100 0)), (3, (.ptr 101 0)), (4, (.ptr 102 0)), (5, (.ptr 103 0)), (14, (.d t4 ((ofN (List.length a1.2)) == (0 : Int))))], [(100, (.box (.vcons (.d t97 a0) .vnil))), (101, (.box (.vcons (.d t97 a1) .vnil))), (102, (.box (.vcons (.d t97 (false, ([] : List Int))) .vnil))), (103, (.box (.vcons (.d t97 (false, ([] : List Int))) .vnil)))]⟩ [] (by kernel_rfl) (by kernel_rfl) trivial ?_
  refine Run.condN ((ofN (List.length a1.2)) == (0 : Int)) (by kernel_rfl) (fun hb => ?_) (fun hb => ?_)
  · replace h := bif_t h hb
    refine Run.regN hX [] 300 [4, 5, 6] [102, 103] ⟨[(4, (.ptr 102 0)), (5, (.ptr 103 0)), (6, (.d t2 (6 : Int)))], [(102, (.box (.vcons (.d t97 (false, ([] : List Int))) .vnil))), (103, (.box (.vcons (.d t97 (false, ([] : List Int))) .vnil)))]⟩ [] (by kernel_rfl) (by kernel_rfl) trivial ?_
    refine Run.retN (by kernel_rfl) ?_
    replace h := Option.some.inj h
    subst h
    exact ⟨[(.d t97 (false, ([] : List Int))), (.d t97 (false, ([] : List Int))), (.d t2 (6 : Int))], by kernel_rfl, by kernel_rfl⟩
  · replace h := bif_f h hb
    refine Run.skipN (by kernel_rfl) ?_
    show Run Pg 55 _ _ _
    obtain ⟨y1, h_y1, h⟩ := bnd_elim h
    refine Run.regN hX [(4, .call (.tup (.vcons (.d t96 y1.1) (.vcons (.d t96 y1.2) .vnil))))] 400 [2, 3, 4, 5, 7, 8] [100, 101, 102, 103] ⟨[(2, (.ptr 100 0)), (3, (.ptr 101 0)), (4, (.ptr 102 0)), (5, (.ptr 103 0)), (7, (.d t96 y1.1)), (8, (.d t96 y1.2))], [(100, (.box (.vcons (.d t97 a0) .vnil))), (101, (.box (.vcons (.d t97 a1) .vnil))), (102, (.box (.vcons (.d t97 (false, ([] : List Int))) .vnil))), (103, (.box (.vcons (.d t97 (false, ([] : List Int))) .vnil)))]⟩ [CallPure Pg 88 [(.d t96 a0.2), (.d t96 a1.2)] (.tup (.vcons (.d t96 y1.1) (.vcons (.d t96 y1.2) .vnil)))] (by kernel_rfl) (by kernel_rfl) ⟨(c88 h_y1), trivial⟩ ?_
    obtain ⟨y2, h_y2, h⟩ := bnd_elim h
    obtain ⟨y3, h_y3, h⟩ := bnd_elim h
    refine Run.regN hX [(6, .call (.d t97 y2)), (10, .call (.d t97 y3))] 500 [3, 4, 5, 9, 10] [101, 102, 103, 511, 512] ⟨[(3, (.ptr 101 0)), (4, (.ptr 102 0)), (5, (.ptr 103 0)), (9, (.ptr 511 0)), (10, (.ptr 512 0))], [(101, (.box (.vcons (.d t97 a1) .vnil))), (102, (.box (.vcons (.d t97 (false, ([] : List Int))) .vnil))), (103, (.box (.vcons (.d t97 (false, ([] : List Int))) .vnil))), (511, (.box (.vcons (.d t97 y2) .vnil))), (512, (.box (.vcons (.d t97 y3) .vnil)))]⟩ [CallPure Pg 73 [(.d t4 (!(a0.1 == a1.1))), (.d t96 y1.1)] (.d t97 y2), CallPure Pg 73 [(.d t4 a0.1), (.d t96 y1.2)] (.d t97 y3)] (by kernel_rfl) (by kernel_rfl) ⟨(c73 h_y2), (c73 h_y3), trivial⟩ ?_
    refine Run.seqN (by kernel_rfl) ?_
    rcases bif_elim h with ⟨hb0, h⟩ | ⟨hb0, h⟩
    · refine Run.regN hX [(4, .b true)] 600 [3, 4, 5, 9, 10, 46] [101, 102, 103, 511, 512] ⟨[(3, (.ptr 101 0)), (4, (.ptr 102 0)), (5, (.ptr 103 0)), (9, (.ptr 511 0)), (10, (.ptr 512 0)), (46, (.d t4 (!(y3.1 == a1.1))))], [(101, (.box (.vcons (.d t97 a1) .vnil))), (102, (.box (.vcons (.d t97 (false, ([] : List Int))) .vnil))), (103, (.box (.vcons (.d t97 (false, ([] : List Int))) .vnil))), (511, (.box (.vcons (.d t97 y2) .vnil))), (512, (.box (.vcons (.d t97 y3) .vnil)))]⟩ [(decide ((0 : Int) < (ofN (List.length y3.2)))) = true] (by kernel_rfl) (by kernel_rfl) ⟨hb0, trivial⟩ ?_
      obtain ⟨o15, h_o15, h⟩ := bnd_elim h
      refine Run.mono (f89_c0_ok (!(y3.1 == a1.1)) a1 (false, ([] : List Int)) y2 y3 h_o15) ?_
      rintro x s ⟨hx, hs⟩
      subst hx
      subst hs
      show Run Pg 55 _ _ _
      refine Run.regN hX [] 800 [4, 5, 6] [102, 103] ⟨[(4, (.ptr 102 0)), (5, (.ptr 103 0)), (6, (.d t2 (0 : Int)))], [(102, (.box (.vcons (.d t97 o15.1) .vnil))), (103, (.box (.vcons (.d t97 o15.2) .vnil)))]⟩ [] (by kernel_rfl) (by kernel_rfl) trivial ?_
      refine Run.retN (by kernel_rfl) ?_
      replace h := Option.some.inj h
      subst h
      exact ⟨[(.d t97 o15.1), (.d t97 o15.2), (.d t2 (0 : Int))], by kernel_rfl, by kernel_rfl⟩
    · refine Run.regN hX [(4, .b false)] 600 [3, 4, 5, 9, 10, 46] [101, 102, 103, 511, 512] ⟨[(3, (.ptr 101 0)), (4, (.ptr 102 0)), (5, (.ptr 103 0)), (9, (.ptr 511 0)), (10, (.ptr 512 0)), (46, (.d t4 false))], [(101, (.box (.vcons (.d t97 a1) .vnil))), (102, (.box (.vcons (.d t97 (false, ([] : List Int))) .vnil))), (103, (.box (.vcons (.d t97 (false, ([] : List Int))) .vnil))), (511, (.box (.vcons (.d t97 y2) .vnil))), (512, (.box (.vcons (.d t97 y3) .vnil)))]⟩ [(decide ((0 : Int) < (ofN (List.length y3.2)))) = false] (by kernel_rfl) (by kernel_rfl) ⟨hb0, trivial⟩ ?_
      refine Run.condN false (by kernel_rfl) (fun hb => (by cases hb)) (fun hb => ?_)
      refine Run.skipN (by kernel_rfl) ?_
      show Run Pg 55 _ _ _
      refine Run.regN hX [] 800 [4, 5, 6] [102, 103] ⟨[(4, (.ptr 102 0)), (5, (.ptr 103 0)), (6, (.d t2 (0 : Int)))], [(102, (.box (.vcons (.d t97 y2) .vnil))), (103, (.box (.vcons (.d t97 y3) .vnil)))]⟩ [] (by kernel_rfl) (by kernel_rfl) trivial ?_
      refine Run.retN (by kernel_rfl) ?_
      replace h := Option.some.inj h
      subst h
      exact ⟨[(.d t97 y2), (.d t97 y3), (.d t2 (0 : Int))], by kernel_rfl, by kernel_rfl⟩

/-! ## f78 -/

noncomputable def c_78 : Code := body0 Go.Proofs.Try.f78

def fin78 (r : (Bool × (List Int))) : Ex → St → Prop := endK X0 [.cell 4 98] [98] (.d t97 r)

def F78 (a0 : Bool × (List Int)) (a1 : Bool × (List Int)) : Option ((Bool × (List Int))) :=
  (F89 a0 a1).bind fun y1 =>
  some y1.1

theorem c78 {a0 : Bool × (List Int)} {a1 : Bool × (List Int)} {r : (Bool × (List Int))} (h : F78 a0 a1 = some r) : CallPure Pg 78 [(.d t97 a0), (.d t97 a1)] (.d t97 r) := by
  refine callPureN hX c_78 16 [.cell 4 98] [98] Go.Proofs.Try.func78 (by kernel_rfl) (by kernel_rfl) (by kernel_rfl) (Nat.le_of_ble_eq_true rfl) rfl rfl ?_
  show Run Pg 16 c_78 ⟨[(0, (.d t97 a0)), (1, (.d t97 a1))], []⟩ (fin78 r)
  unfold F78 at h
  refine Run.regN hX [] 100 [2, 3, 4] [100, 101, 102] ⟨[(2, (.ptr 100 0)), (3, (.ptr 101 0)), (4, (.ptr 102 0))], [(100, (.box (.vcons (.d t97 a0) .vnil))), (101, (.box (.vcons (.d t97 a1) .vnil))), (102, (.box (.vcons (.d t97 (false, ([] : List Int))) .vnil)))]⟩ [] (by kernel_rfl) (by kernel_rfl) trivial ?_
  obtain ⟨y1, h_y1, h⟩ := bnd_elim h
  refine Run.regN hX [(2, .call (.tup (.vcons (.d t97 y1.1) (.vcons (.d t97 y1.2.1) (.vcons (.d t2 y1.2.2) .vnil)))))] 200 [4, 5] [102, 207] ⟨[(4, (.ptr 102 0)), (5, (.ptr 207 0))], [(102, (.box (.vcons (.d t97 (false, ([] : List Int))) .vnil))), (207, (.box (.vcons (.d t97 y1.1) .vnil)))]⟩ [CallPure Pg 89 [(.d t97 a0), (.d t97 a1)] (.tup (.vcons (.d t97 y1.1) (.vcons (.d t97 y1.2.1) (.vcons (.d t2 y1.2.2) .vnil))))] (by kernel_rfl) (by kernel_rfl) ⟨(c89 h_y1), trivial⟩ ?_
  refine Run.regN hX [] 300 [4] [102] ⟨[(4, (.ptr 102 0))], [(102, (.box (.vcons (.d t97 y1.1) .vnil)))]⟩ [] (by kernel_rfl) (by kernel_rfl) trivial ?_
  refine Run.retN (by kernel_rfl) ?_
  replace h := Option.some.inj h
  subst h
  exact ⟨[(.d t97 y1.1)], by kernel_rfl, by kernel_rfl⟩

/-! ## f65 -/

noncomputable def c_65 : Code := body0 Go.Proofs.Try.f65

def fin65 (r : ((Bool × (List Int)) × (Bool × (List Int)))) : Ex → St → Prop := endK X0 [.cell 4 100] [100] (.d t99 r)

def f65_c0_post (x2 : Bool) (x3 : Bool × (List Int)) (x4 : Bool × (List Int)) (x5 : (Bool × (List Int)) × (Bool × (List Int))) : ((Bool × (List Int)) × (Bool × (List Int))) → Ex → St → Prop
  | o, x, s => x = .nrm ∧ s = ⟨[(2, (.ptr 100 0)), (3, (.ptr 101 0)), (4, (.ptr 102 0))], [(100, (.box (.vcons (.d t97 o.1) .vnil))), (101, (.box (.vcons (.d t97 o.2) .vnil))), (102, (.box (.vcons (.d t99 x5) .vnil)))]⟩

def f65_c0 (x2 : Bool) (x3 : Bool × (List Int)) (x4 : Bool × (List Int)) : Option ((Bool × (List Int)) × (Bool × (List Int))) :=
  (bif x2 then
    (F76 x3).bind fun y8 =>
    (F76 x4).bind fun y9 =>
    some (y8, y9)
  else
    some (x3, x4))

theorem f65_c0_ok (x2 : Bool) (x3 : Bool × (List Int)) (x4 : Bool × (List Int)) (x5 : (Bool × (List Int)) × (Bool × (List Int))) {out : ((Bool × (List Int)) × (Bool × (List Int)))} (h : f65_c0 x2 x3 x4 = some out) : Run Pg 29 (sq2 (sq1 (sq2 c_65))) ⟨[(2, (.ptr 100 0)), (3, (.ptr 101 0)), (4, (.ptr 102 0)), (8, (.d t4 x2))], [(100, (.box (.vcons (.d t97 x3) .vnil))), (101, (.box (.vcons (.d t97 x4) .vnil))), (102, (.box (.vcons (.d t99 x5) .vnil)))]⟩ (f65_c0_post x2 x3 x4 x5 out) := by
  unfold f65_c0 at h
  refine Run.condN x2 (by kernel_rfl) (fun hb => ?_) (fun hb => ?_)
  · replace h := bif_t h hb
    obtain ⟨y8, h_y8, h⟩ := bnd_elim h
    obtain ⟨y9, h_y9, h⟩ := bnd_elim h
    refine Run.regE hX [(1, .call (.d t97 y8)), (3, .call (.d t97 y9))] 300 [2, 3, 4] [100, 101, 102] ⟨[(2, (.ptr 100 0)), (3, (.ptr 101 0)), (4, (.ptr 102 0))], [(100, (.box (.vcons (.d t97 y8) .vnil))), (101, (.box (.vcons (.d t97 y9) .vnil))), (102, (.box (.vcons (.d t99 x5) .vnil)))]⟩ [CallPure Pg 76 [(.d t97 x3)] (.d t97 y8), CallPure Pg 76 [(.d t97 x4)] (.d t97 y9)] (by kernel_rfl) ⟨(c76 h_y8), (c76 h_y9), trivial⟩ ?_
    replace h := Option.some.inj h
    subst h
    exact ⟨rfl, by kernel_rfl⟩
  · replace h := bif_f h hb
    refine Run.keep (s' := ⟨[(2, (.ptr 100 0)), (3, (.ptr 101 0)), (4, (.ptr 102 0))], [(100, (.box (.vcons (.d t97 x3) .vnil))), (101, (.box (.vcons (.d t97 x4) .vnil))), (102, (.box (.vcons (.d t99 x5) .vnil)))]⟩) [2, 3, 4] [100, 101, 102] (by kernel_rfl) ?_
    refine Run.skipN (by kernel_rfl) ?_
    replace h := Option.some.inj h
    subst h
    exact ⟨rfl, by kernel_rfl⟩

def f65_c1_post (x14 : Bool) (x15 : Bool × (List Int)) (x16 : Bool × (List Int)) (x17 : (Bool × (List Int)) × (Bool × (List Int))) (x18 : Bool × (List Int)) : ((Bool × (List Int)) × (Bool × (List Int))) → Ex → St → Prop
  | o, x, s => x = .nrm ∧ s = ⟨[(2, (.ptr 100 0)), (3, (.ptr 101 0)), (4, (.ptr 102 0))], [(100, (.box (.vcons (.d t97 o.1) .vnil))), (101, (.box (.vcons (.d t97 o.2) .vnil))), (102, (.box (.vcons (.d t99 x17) .vnil)))]⟩

def f65_c1 (x14 : Bool) (x15 : Bool × (List Int)) (x16 : Bool × (List Int)) (x18 : Bool × (List Int)) : Option ((Bool × (List Int)) × (Bool × (List Int))) :=
  (bif x14 then
    (F78 x15 x18).bind fun y21 =>
    (F78 x16 x18).bind fun y22 =>
    some (y21, y22)
  else
    some (x15, x16))

theorem f65_c1_ok (x14 : Bool) (x15 : Bool × (List Int)) (x16 : Bool × (List Int)) (x17 : (Bool × (List Int)) × (Bool × (List Int))) (x18 : Bool × (List Int)) {out : ((Bool × (List Int)) × (Bool × (List Int)))} (h : f65_c1 x14 x15 x16 x18 = some out) : Run Pg 29 (sq2 (sq2 (sq1 (sq2 (sq2 c_65))))) ⟨[(2, (.ptr 100 0)), (3, (.ptr 101 0)), (4, (.ptr 102 0)), (5, (.ptr 403 0)), (19, (.d t4 x14))], [(100, (.box (.vcons (.d t97 x15) .vnil))), (101, (.box (.vcons (.d t97 x16) .vnil))), (102, (.box (.vcons (.d t99 x17) .vnil))), (403, (.box (.vcons (.d t97 x18) .vnil)))]⟩ (f65_c1_post x14 x15 x16 x17 x18 out) := by
  unfold f65_c1 at h
  refine Run.condN x14 (by kernel_rfl) (fun hb => ?_) (fun hb => ?_)
  · replace h := bif_t h hb
    obtain ⟨y21, h_y21, h⟩ := bnd_elim h
    obtain ⟨y22, h_y22, h⟩ := bnd_elim h
    refine Run.regE hX [(2, .call (.d t97 y21)), (5, .call (.d t97 y22))] 600 [2, 3, 4] [100, 101, 102] ⟨[(2, (.ptr 100 0)), (3, (.ptr 101 0)), (4, (.ptr 102 0))], [(100, (.box (.vcons (.d t97 y21) .vnil))), (101, (.box (.vcons (.d t97 y22) .vnil))), (102, (.box (.vcons (.d t99 x17) .vnil)))]⟩ [CallPure Pg 78 [(.d t97 x15), (.d t97 x18)] (.d t97 y21), CallPure Pg 78 [(.d t97 x16), (.d t97 x18)] (.d t97 y22)] (by kernel_rfl) ⟨(c78 h_y21), (c78 h_y22), trivial⟩ ?_
    replace h := Option.some.inj h
    subst h
    exact ⟨rfl, by kernel_rfl⟩
  · replace h := bif_f h hb
    refine Run.keep (s' := ⟨[(2, (.ptr 100 0)), (3, (.ptr 101 0)), (4, (.ptr 102 0))], [(100, (.box (.vcons (.d t97 x15) .vnil))), (101, (.box (.vcons (.d t97 x16) .vnil))), (102, (.box (.vcons (.d t99 x17) .vnil)))]⟩) [2, 3, 4] [100, 101, 102] (by kernel_rfl) ?_
    refine Run.skipN (by kernel_rfl) ?_
    replace h := Option.some.inj h
    subst h
    exact ⟨rfl, by kernel_rfl⟩

def F65 (a0 : Bool × (List Int)) (a1 : Bool × (List Int)) : Option (((Bool × (List Int)) × (Bool × (List Int)))) :=
  (F75 a1).bind fun y1 =>
  ((f65_c0 (decide (y1 < (0 : Int))) a0 a1).bind fun o10 =>
    (F77 o10.1 o10.2).bind fun y11 =>
    (F72 ).bind fun y12 =>
    (F69 y11 y12).bind fun y13 =>
    ((f65_c1 (y13 != (0 : Int)) o10.1 o10.2 y11).bind fun o23 =>
      some (o23.1, o23.2)))

theorem c65 {a0 : Bool × (List Int)} {a1 : Bool × (List Int)} {r : ((Bool × (List Int)) × (Bool × (List Int)))} (h : F65 a0 a1 = some r) : CallPure Pg 65 [(.d t97 a0), (.d t97 a1)] (.d t99 r) := by
  refine callPureN hX c_65 29 [.cell 4 100] [100] Go.Proofs.Try.func65 (by kernel_rfl) (by kernel_rfl) (by kernel_rfl) (Nat.le_of_ble_eq_true rfl) rfl rfl ?_
  show Run Pg 29 c_65 ⟨[(0, (.d t97 a0)), (1, (.d t97 a1))], []⟩ (fin65 r)
  unfold F65 at h
  refine Run.regN hX [] 100 [2, 3, 4] [100, 101, 102] ⟨[(2, (.ptr 100 0)), (3, (.ptr 101 0)), (4, (.ptr 102 0))], [(100, (.box (.vcons (.d t97 a0) .vnil))), (101, (.box (.vcons (.d t97 a1) .vnil))), (102, (.box (.vcons (.d t99 ((false, ([] : List Int)), (false, ([] : List Int)))) .vnil)))]⟩ [] (by kernel_rfl) (by kernel_rfl) trivial ?_
  refine Run.seqN (by kernel_rfl) ?_
  obtain ⟨y1, h_y1, h⟩ := bnd_elim h
  refine Run.regN hX [(1, .call (.d t2 y1))] 200 [2, 3, 4, 8] [100, 101, 102] ⟨[(2, (.ptr 100 0)), (3, (.ptr 101 0)), (4, (.ptr 102 0)), (8, (.d t4 (decide (y1 < (0 : Int)))))], [(100, (.box (.vcons (.d t97 a0) .vnil))), (101, (.box (.vcons (.d t97 a1) .vnil))), (102, (.box (.vcons (.d t99 ((false, ([] : List Int)), (false, ([] : List Int)))) .vnil)))]⟩ [CallPure Pg 75 [(.d t97 a1)] (.d t2 y1)] (by kernel_rfl) (by kernel_rfl) ⟨(c75 h_y1), trivial⟩ ?_
  obtain ⟨o10, h_o10, h⟩ := bnd_elim h
  refine Run.mono (f65_c0_ok (decide (y1 < (0 : Int))) a0 a1 ((false, ([] : List Int)), (false, ([] : List Int))) h_o10) ?_
  rintro x s ⟨hx, hs⟩
  subst hx
  subst hs
  show Run Pg 29 _ _ _
  refine Run.seqN (by kernel_rfl) ?_
  obtain ⟨y11, h_y11, h⟩ := bnd_elim h
  refine Run.regN hX [(2, .call (.d t97 y11))] 400 [2, 3, 4, 5] [100, 101, 102, 403] ⟨[(2, (.ptr 100 0)), (3, (.ptr 101 0)), (4, (.ptr 102 0)), (5, (.ptr 403 0))], [(100, (.box (.vcons (.d t97 o10.1) .vnil))), (101, (.box (.vcons (.d t97 o10.2) .vnil))), (102, (.box (.vcons (.d t99 ((false, ([] : List Int)), (false, ([] : List Int)))) .vnil))), (403, (.box (.vcons (.d t97 y11) .vnil)))]⟩ [CallPure Pg 77 [(.d t97 o10.1), (.d t97 o10.2)] (.d t97 y11)] (by kernel_rfl) (by kernel_rfl) ⟨(c77 h_y11), trivial⟩ ?_
  obtain ⟨y12, h_y12, h⟩ := bnd_elim h
  obtain ⟨y13, h_y13, h⟩ := bnd_elim h
  refine Run.regN hX [(1, .call (.d t97 y12)), (2, .call (.d t2 y13))] 500 [2, 3, 4, 5, 19] [100, 101, 102, 403] ⟨[(2, (.ptr 100 0)), (3, (.ptr 101 0)), (4, (.ptr 102 0)), (5, (.ptr 403 0)), (19, (.d t4 (y13 != (0 : Int))))], [(100, (.box (.vcons (.d t97 o10.1) .vnil))), (101, (.box (.vcons (.d t97 o10.2) .vnil))), (102, (.box (.vcons (.d t99 ((false, ([] : List Int)), (false, ([] : List Int)))) .vnil))), (403, (.box (.vcons (.d t97 y11) .vnil)))]⟩ [CallPure Pg 72 [] (.d t97 y12), CallPure Pg 69 [(.d t97 y11), (.d t97 y12)] (.d t2 y13)] (by kernel_rfl) (by kernel_rfl) ⟨(c72 h_y12), (c69 h_y13), trivial⟩ ?_
  obtain ⟨o23, h_o23, h⟩ := bnd_elim h
  refine Run.mono (f65_c1_ok (y13 != (0 : Int)) o10.1 o10.2 ((false, ([] : List Int)), (false, ([] : List Int))) y11 h_o23) ?_
  rintro x s ⟨hx, hs⟩
  subst hx
  subst hs
  show Run Pg 29 _ _ _
  refine Run.regN hX [] 700 [4] [102] ⟨[(4, (.ptr 102 0))], [(102, (.box (.vcons (.d t99 (o23.1, o23.2)) .vnil)))]⟩ [] (by kernel_rfl) (by kernel_rfl) trivial ?_
  refine Run.retN (by kernel_rfl) ?_
  replace h := Option.some.inj h
  subst h
  exact ⟨[(.d t99 (o23.1, o23.2))], by kernel_rfl, by kernel_rfl⟩

/-! ## f59 -/

noncomputable def c_59 : Code := body0 Go.Proofs.Try.f59

def fin59 (r : ((Bool × (List Int)) × (Bool × (List Int)))) : Ex → St → Prop := endK X0 [.cell 4 100] [100] (.d t99 r)

def F59 (a0 : (Bool × (List Int)) × (Bool × (List Int))) (a1 : (Bool × (List Int)) × (Bool × (List Int))) : Option (((Bool × (List Int)) × (Bool × (List Int)))) :=
  (F66 a0.1 a1.1).bind fun y1 =>
  (F66 a0.2 a1.2).bind fun y2 =>
  (F65 y1 y2).bind fun y3 =>
  some y3

theorem c59 {a0 : (Bool × (List Int)) × (Bool × (List Int))} {a1 : (Bool × (List Int)) × (Bool × (List Int))} {r : ((Bool × (List Int)) × (Bool × (List Int)))} (h : F59 a0 a1 = some r) : CallPure Pg 59 [(.d t99 a0), (.d t99 a1)] (.d t99 r) := by
  refine callPureN hX c_59 16 [.cell 4 100] [100] Go.Proofs.Try.func59 (by kernel_rfl) (by kernel_rfl) (by kernel_rfl) (Nat.le_of_ble_eq_true rfl) rfl rfl ?_
  show Run Pg 16 c_59 ⟨[(0, (.d t99 a0)), (1, (.d t99 a1))], []⟩ (fin59 r)
  unfold F59 at h
  refine Run.regN hX [] 100 [2, 3, 4] [100, 101, 102] ⟨[(2, (.ptr 100 0)), (3, (.ptr 101 0)), (4, (.ptr 102 0))], [(100, (.box (.vcons (.d t99 a0) .vnil))), (101, (.box (.vcons (.d t99 a1) .vnil))), (102, (.box (.vcons (.d t99 ((false, ([] : List Int)), (false, ([] : List Int)))) .vnil)))]⟩ [] (by kernel_rfl) (by kernel_rfl) trivial ?_
  obtain ⟨y1, h_y1, h⟩ := bnd_elim h
  obtain ⟨y2, h_y2, h⟩ := bnd_elim h
  obtain ⟨y3, h_y3, h⟩ := bnd_elim h
  refine Run.regN hX [(4, .call (.d t97 y1)), (9, .call (.d t97 y2)), (10, .call (.d t99 y3))] 200 [4] [102] ⟨[(4, (.ptr 102 0))], [(102, (.box (.vcons (.d t99 y3) .vnil)))]⟩ [CallPure Pg 66 [(.d t97 a0.1), (.d t97 a1.1)] (.d t97 y1), CallPure Pg 66 [(.d t97 a0.2), (.d t97 a1.2)] (.d t97 y2), CallPure Pg 65 [(.d t97 y1), (.d t97 y2)] (.d t99 y3)] (by kernel_rfl) (by kernel_rfl) ⟨(c66 h_y1), (c66 h_y2), (c65 h_y3), trivial⟩ ?_
  refine Run.retN (by kernel_rfl) ?_
  replace h := Option.some.inj h
  subst h
  exact ⟨[(.d t99 y3)], by kernel_rfl, by kernel_rfl⟩

/-! ## f60 -/

noncomputable def c_60 : Code := body0 Go.Proofs.Try.f60

def fin60 (r : (((Bool × (List Int)) × (Bool × (List Int))) × ((Bool × (List Int)) × (Bool × (List Int))))) : Ex → St → Prop := endK X0 [.cell 4 104] [104] (.d t103 r)

def F60 (a0 : Int) (a1 : Int) : Option ((((Bool × (List Int)) × (Bool × (List Int))) × ((Bool × (List Int)) × (Bool × (List Int))))) :=
  (F58 a0).bind fun y1 =>
  (F58 a1).bind fun y2 =>
  some (y1, y2)

theorem c60 {a0 : Int} {a1 : Int} {r : (((Bool × (List Int)) × (Bool × (List Int))) × ((Bool × (List Int)) × (Bool × (List Int))))} (h : F60 a0 a1 = some r) : CallPure Pg 60 [(.d t2 a0), (.d t2 a1)] (.d t103 r) := by
  refine callPureN hX c_60 10 [.cell 4 104] [104] Go.Proofs.Try.func60 (by kernel_rfl) (by kernel_rfl) (by kernel_rfl) (Nat.le_of_ble_eq_true rfl) rfl rfl ?_
  show Run Pg 10 c_60 ⟨[(0, (.d t2 a0)), (1, (.d t2 a1))], []⟩ (fin60 r)
  unfold F60 at h
  refine Run.regN hX [] 100 [0, 1, 4] [100] ⟨[(0, (.d t2 a0)), (1, (.d t2 a1)), (4, (.ptr 100 0))], [(100, (.box (.vcons (.d t103 (((false, ([] : List Int)), (false, ([] : List Int))), ((false, ([] : List Int)), (false, ([] : List Int))))) .vnil)))]⟩ [] (by kernel_rfl) (by kernel_rfl) trivial ?_
  obtain ⟨y1, h_y1, h⟩ := bnd_elim h
  obtain ⟨y2, h_y2, h⟩ := bnd_elim h
  refine Run.regN hX [(1, .call (.d t99 y1)), (3, .call (.d t99 y2))] 200 [4] [100] ⟨[(4, (.ptr 100 0))], [(100, (.box (.vcons (.d t103 (y1, y2)) .vnil)))]⟩ [CallPure Pg 58 [(.d t2 a0)] (.d t99 y1), CallPure Pg 58 [(.d t2 a1)] (.d t99 y2)] (by kernel_rfl) (by kernel_rfl) ⟨(c58 h_y1), (c58 h_y2), trivial⟩ ?_
  refine Run.retN (by kernel_rfl) ?_
  replace h := Option.some.inj h
  subst h
  exact ⟨[(.d t103 (y1, y2))], by kernel_rfl, by kernel_rfl⟩

/-! ## f103 -/

noncomputable def c_103 : Code := body0 Go.Proofs.Try.f103

def fin103 (r : ((Bool × (List Int)) × (Bool × (List Int)))) : Ex → St → Prop := endK X0 [.cell 2 100] [100] (.d t99 r)

def F103 (a0 : (Bool × (List Int)) × (Bool × (List Int))) : Option (((Bool × (List Int)) × (Bool × (List Int)))) :=
  (F76 a0.1).bind fun y1 =>
  some (y1, a0.2)

theorem c103 {a0 : (Bool × (List Int)) × (Bool × (List Int))} {r : ((Bool × (List Int)) × (Bool × (List Int)))} (h : F103 a0 = some r) : CallPure Pg 103 [(.d t99 a0)] (.d t99 r) := by
  refine callPureN hX c_103 9 [.cell 2 100] [100] Go.Proofs.Try.func103 (by kernel_rfl) (by kernel_rfl) (by kernel_rfl) (Nat.le_of_ble_eq_true rfl) rfl rfl ?_
  show Run Pg 9 c_103 ⟨[(0, (.d t99 a0))], []⟩ (fin103 r)
  unfold F103 at h
  refine Run.regN hX [] 100 [1, 2] [100, 101] ⟨[(1, (.ptr 100 0)), (2, (.ptr 101 0))], [(100, (.box (.vcons (.d t99 a0) .vnil))), (101, (.box (.vcons (.d t99 ((false, ([] : List Int)), (false, ([] : List Int)))) .vnil)))]⟩ [] (by kernel_rfl) (by kernel_rfl) trivial ?_
  obtain ⟨y1, h_y1, h⟩ := bnd_elim h
  refine Run.regN hX [(2, .call (.d t97 y1))] 200 [2] [101] ⟨[(2, (.ptr 101 0))], [(101, (.box (.vcons (.d t99 (y1, a0.2)) .vnil)))]⟩ [CallPure Pg 76 [(.d t97 a0.1)] (.d t97 y1)] (by kernel_rfl) (by kernel_rfl) ⟨(c76 h_y1), trivial⟩ ?_
  refine Run.retN (by kernel_rfl) ?_
  replace h := Option.some.inj h
  subst h
  exact ⟨[(.d t99 (y1, a0.2))], by kernel_rfl, by kernel_rfl⟩

/-! ## f100 -/

noncomputable def c_100 : Code := body0 Go.Proofs.Try.f100

def fin100 (r : ((Bool × (List Int)) × (Bool × (List Int)))) : Ex → St → Prop := endK X0 [.cell 4 100] [100] (.d t99 r)

def F100 (a0 : (Bool × (List Int)) × (Bool × (List Int))) (a1 : (Bool × (List Int)) × (Bool × (List Int))) : Option (((Bool × (List Int)) × (Bool × (List Int)))) :=
  (F69 a0.2 a1.2).bind fun y1 =>
  (bif (y1 == (0 : Int)) then
    (F98 a0.1 a1.1).bind fun y2 =>
    (F65 y2 a0.2).bind fun y3 =>
    some y3
  else
    (F66 a0.1 a1.2).bind fun y4 =>
    (F66 a1.1 a0.2).bind fun y5 =>
    (F98 y4 y5).bind fun y6 =>
    (F66 a0.2 a1.2).bind fun y7 =>
    (F65 y6 y7).bind fun y8 =>
    some y8)

theorem c100 {a0 : (Bool × (List Int)) × (Bool × (List Int))} {a1 : (Bool × (List Int)) × (Bool × (List Int))} {r : ((Bool × (List Int)) × (Bool × (List Int)))} (h : F100 a0 a1 = some r) : CallPure Pg 100 [(.d t99 a0), (.d t99 a1)] (.d t99 r) := by
  refine callPureN hX c_100 36 [.cell 4 100] [100] Go.Proofs.Try.func100 (by kernel_rfl) (by kernel_rfl) (by kernel_rfl) (Nat.le_of_ble_eq_true rfl) rfl rfl ?_
  show Run Pg 36 c_100 ⟨[(0, (.d t99 a0)), (1, (.d t99 a1))], []⟩ (fin100 r)
  unfold F100 at h
  refine Run.regN hX [] 100 [2, 3, 4] [100, 101, 102] ⟨[(2, (.ptr 100 0)), (3, (.ptr 101 0)), (4, (.ptr 102 0))], [(100, (.box (.vcons (.d t99 a0) .vnil))), (101, (.box (.vcons (.d t99 a1) .vnil))), (102, (.box (.vcons (.d t99 ((false, ([] : List Int)), (false, ([] : List Int)))) .vnil)))]⟩ [] (by kernel_rfl) (by kernel_rfl) trivial ?_
  refine Run.seqN (by kernel_rfl) ?_
  obtain ⟨y1, h_y1, h⟩ := bnd_elim h
  refine Run.regN hX [(4, .call (.d t2 y1))] 200 [2, 3, 4, 10] [100, 101, 102] ⟨[(2, (.ptr 100 0)), (3, (.ptr 101 0)), (4, (.ptr 102 0)), (10, (.d t4 (y1 == (0 : Int))))], [(100, (.box (.vcons (.d t99 a0) .vnil))), (101, (.box (.vcons (.d t99 a1) .vnil))), (102, (.box (.vcons (.d t99 ((false, ([] : List Int)), (false, ([] : List Int)))) .vnil)))]⟩ [CallPure Pg 69 [(.d t97 a0.2), (.d t97 a1.2)] (.d t2 y1)] (by kernel_rfl) (by kernel_rfl) ⟨(c69 h_y1), trivial⟩ ?_
  refine Run.condN (y1 == (0 : Int)) (by kernel_rfl) (fun hb => ?_) (fun hb => ?_)
  · replace h := bif_t h hb
    obtain ⟨y2, h_y2, h⟩ := bnd_elim h
    obtain ⟨y3, h_y3, h⟩ := bnd_elim h
    refine Run.regN hX [(4, .call (.d t97 y2)), (7, .call (.d t99 y3))] 300 [4] [102] ⟨[(4, (.ptr 102 0))], [(102, (.box (.vcons (.d t99 y3) .vnil)))]⟩ [CallPure Pg 98 [(.d t97 a0.1), (.d t97 a1.1)] (.d t97 y2), CallPure Pg 65 [(.d t97 y2), (.d t97 a0.2)] (.d t99 y3)] (by kernel_rfl) (by kernel_rfl) ⟨(c98 h_y2), (c65 h_y3), trivial⟩ ?_
    refine Run.retN (by kernel_rfl) ?_
    replace h := Option.some.inj h
    subst h
    exact ⟨[(.d t99 y3)], by kernel_rfl, by kernel_rfl⟩
  · replace h := bif_f h hb
    refine Run.skipN (by kernel_rfl) ?_
    show Run Pg 36 _ _ _
    obtain ⟨y4, h_y4, h⟩ := bnd_elim h
    obtain ⟨y5, h_y5, h⟩ := bnd_elim h
    obtain ⟨y6, h_y6, h⟩ := bnd_elim h
    obtain ⟨y7, h_y7, h⟩ := bnd_elim h
    obtain ⟨y8, h_y8, h⟩ := bnd_elim h
    refine Run.regN hX [(4, .call (.d t97 y4)), (9, .call (.d t97 y5)), (10, .call (.d t97 y6)), (15, .call (.d t97 y7)), (16, .call (.d t99 y8))] 400 [4] [102] ⟨[(4, (.ptr 102 0))], [(102, (.box (.vcons (.d t99 y8) .vnil)))]⟩ [CallPure Pg 66 [(.d t97 a0.1), (.d t97 a1.2)] (.d t97 y4), CallPure Pg 66 [(.d t97 a1.1), (.d t97 a0.2)] (.d t97 y5), CallPure Pg 98 [(.d t97 y4), (.d t97 y5)] (.d t97 y6), CallPure Pg 66 [(.d t97 a0.2), (.d t97 a1.2)] (.d t97 y7), CallPure Pg 65 [(.d t97 y6), (.d t97 y7)] (.d t99 y8)] (by kernel_rfl) (by kernel_rfl) ⟨(c66 h_y4), (c66 h_y5), (c98 h_y6), (c66 h_y7), (c65 h_y8), trivial⟩ ?_
    refine Run.retN (by kernel_rfl) ?_
    replace h := Option.some.inj h
    subst h
    exact ⟨[(.d t99 y8)], by kernel_rfl, by kernel_rfl⟩

/-! ## f99 -/

noncomputable def c_99 : Code := body0 Go.Proofs.Try.f99

def fin99 (r : ((Bool × (List Int)) × (Bool × (List Int)))) : Ex → St → Prop := endK X0 [.cell 4 100] [100] (.d t99 r)

def F99 (a0 : (Bool × (List Int)) × (Bool × (List Int))) (a1 : (Bool × (List Int)) × (Bool × (List Int))) : Option (((Bool × (List Int)) × (Bool × (List Int)))) :=
  (F103 a1).bind fun y1 =>
  (F100 a0 y1).bind fun y2 =>
  some y2

theorem c99 {a0 : (Bool × (List Int)) × (Bool × (List Int))} {a1 : (Bool × (List Int)) × (Bool × (List Int))} {r : ((Bool × (List Int)) × (Bool × (List Int)))} (h : F99 a0 a1 = some r) : CallPure Pg 99 [(.d t99 a0), (.d t99 a1)] (.d t99 r) := by
  refine callPureN hX c_99 9 [.cell 4 100] [100] Go.Proofs.Try.func99 (by kernel_rfl) (by kernel_rfl) (by kernel_rfl) (Nat.le_of_ble_eq_true rfl) rfl rfl ?_
  show Run Pg 9 c_99 ⟨[(0, (.d t99 a0)), (1, (.d t99 a1))], []⟩ (fin99 r)
  unfold F99 at h
  refine Run.regN hX [] 100 [2, 3, 4] [100, 101, 102] ⟨[(2, (.ptr 100 0)), (3, (.ptr 101 0)), (4, (.ptr 102 0))], [(100, (.box (.vcons (.d t99 a0) .vnil))), (101, (.box (.vcons (.d t99 a1) .vnil))), (102, (.box (.vcons (.d t99 ((false, ([] : List Int)), (false, ([] : List Int)))) .vnil)))]⟩ [] (by kernel_rfl) (by kernel_rfl) trivial ?_
  obtain ⟨y1, h_y1, h⟩ := bnd_elim h
  obtain ⟨y2, h_y2, h⟩ := bnd_elim h
  refine Run.regN hX [(2, .call (.d t99 y1)), (3, .call (.d t99 y2))] 200 [4] [102] ⟨[(4, (.ptr 102 0))], [(102, (.box (.vcons (.d t99 y2) .vnil)))]⟩ [CallPure Pg 103 [(.d t99 a1)] (.d t99 y1), CallPure Pg 100 [(.d t99 a0), (.d t99 y1)] (.d t99 y2)] (by kernel_rfl) (by kernel_rfl) ⟨(c103 h_y1), (c100 h_y2), trivial⟩ ?_
  refine Run.retN (by kernel_rfl) ?_
  replace h := Option.some.inj h
  subst h
  exact ⟨[(.d t99 y2)], by kernel_rfl, by kernel_rfl⟩

/-! ## f91 -/

noncomputable def c_91 : Code := body0 Go.Proofs.Try.f91

def fin91 (r : ((Bool × (List Int)) × (Bool × (List Int)))) : Ex → St → Prop := endK X0 [.cell 4 100] [100] (.d t99 r)

def F91 (a0 : (Bool × (List Int)) × (Bool × (List Int))) (a1 : (Bool × (List Int)) × (Bool × (List Int))) : Option (((Bool × (List Int)) × (Bool × (List Int)))) :=
  (F99 a0 a1).bind fun y1 =>
  some y1

theorem c91 {a0 : (Bool × (List Int)) × (Bool × (List Int))} {a1 : (Bool × (List Int)) × (Bool × (List Int))} {r : ((Bool × (List Int)) × (Bool × (List Int)))} (h : F91 a0 a1 = some r) : CallPure Pg 91 [(.d t99 a0), (.d t99 a1)] (.d t99 r) := by
  refine callPureN hX c_91 8 [.cell 4 100] [100] Go.Proofs.Try.func91 (by kernel_rfl) (by kernel_rfl) (by kernel_rfl) (Nat.le_of_ble_eq_true rfl) rfl rfl ?_
  show Run Pg 8 c_91 ⟨[(0, (.d t99 a0)), (1, (.d t99 a1))], []⟩ (fin91 r)
  unfold F91 at h
  refine Run.regN hX [] 100 [2, 3, 4] [100, 101, 102] ⟨[(2, (.ptr 100 0)), (3, (.ptr 101 0)), (4, (.ptr 102 0))], [(100, (.box (.vcons (.d t99 a0) .vnil))), (101, (.box (.vcons (.d t99 a1) .vnil))), (102, (.box (.vcons (.d t99 ((false, ([] : List Int)), (false, ([] : List Int)))) .vnil)))]⟩ [] (by kernel_rfl) (by kernel_rfl) trivial ?_
  obtain ⟨y1, h_y1, h⟩ := bnd_elim h
  refine Run.regN hX [(2, .call (.d t99 y1))] 200 [4] [102] ⟨[(4, (.ptr 102 0))], [(102, (.box (.vcons (.d t99 y1) .vnil)))]⟩ [CallPure Pg 99 [(.d t99 a0), (.d t99 a1)] (.d t99 y1)] (by kernel_rfl) (by kernel_rfl) ⟨(c99 h_y1), trivial⟩ ?_
  refine Run.retN (by kernel_rfl) ?_
  replace h := Option.some.inj h
  subst h
  exact ⟨[(.d t99 y1)], by kernel_rfl, by kernel_rfl⟩

/-! ## f82 -/

noncomputable def c_82 : Code := body0 Go.Proofs.Try.f82

def fin82 (r : (((Bool × (List Int)) × (Bool × (List Int))) × ((Bool × (List Int)) × (Bool × (List Int))))) : Ex → St → Prop := endK X0 [.cell 4 104] [104] (.d t103 r)

def F82 (a0 : ((Bool × (List Int)) × (Bool × (List Int))) × ((Bool × (List Int)) × (Bool × (List Int)))) (a1 : ((Bool × (List Int)) × (Bool × (List Int))) × ((Bool × (List Int)) × (Bool × (List Int)))) : Option ((((Bool × (List Int)) × (Bool × (List Int))) × ((Bool × (List Int)) × (Bool × (List Int))))) :=
  (F91 a1.1 a0.1).bind fun y1 =>
  (F91 a1.2 a0.2).bind fun y2 =>
  some (y1, y2)

theorem c82 {a0 : ((Bool × (List Int)) × (Bool × (List Int))) × ((Bool × (List Int)) × (Bool × (List Int)))} {a1 : ((Bool × (List Int)) × (Bool × (List Int))) × ((Bool × (List Int)) × (Bool × (List Int)))} {r : (((Bool × (List Int)) × (Bool × (List Int))) × ((Bool × (List Int)) × (Bool × (List Int))))} (h : F82 a0 a1 = some r) : CallPure Pg 82 [(.d t103 a0), (.d t103 a1)] (.d t103 r) := by
  refine callPureN hX c_82 16 [.cell 4 104] [104] Go.Proofs.Try.func82 (by kernel_rfl) (by kernel_rfl) (by kernel_rfl) (Nat.le_of_ble_eq_true rfl) rfl rfl ?_
  show Run Pg 16 c_82 ⟨[(0, (.d t103 a0)), (1, (.d t103 a1))], []⟩ (fin82 r)
  unfold F82 at h
  refine Run.regN hX [] 100 [2, 3, 4] [100, 101, 102] ⟨[(2, (.ptr 100 0)), (3, (.ptr 101 0)), (4, (.ptr 102 0))], [(100, (.box (.vcons (.d t103 a0) .vnil))), (101, (.box (.vcons (.d t103 a1) .vnil))), (102, (.box (.vcons (.d t103 (((false, ([] : List Int)), (false, ([] : List Int))), ((false, ([] : List Int)), (false, ([] : List Int))))) .vnil)))]⟩ [] (by kernel_rfl) (by kernel_rfl) trivial ?_
  obtain ⟨y1, h_y1, h⟩ := bnd_elim h
  obtain ⟨y2, h_y2, h⟩ := bnd_elim h
  refine Run.regN hX [(4, .call (.d t99 y1)), (9, .call (.d t99 y2))] 200 [4] [102] ⟨[(4, (.ptr 102 0))], [(102, (.box (.vcons (.d t103 (y1, y2)) .vnil)))]⟩ [CallPure Pg 91 [(.d t99 a1.1), (.d t99 a0.1)] (.d t99 y1), CallPure Pg 91 [(.d t99 a1.2), (.d t99 a0.2)] (.d t99 y2)] (by kernel_rfl) (by kernel_rfl) ⟨(c91 h_y1), (c91 h_y2), trivial⟩ ?_
  refine Run.retN (by kernel_rfl) ?_
  replace h := Option.some.inj h
  subst h
  exact ⟨[(.d t103 (y1, y2))], by kernel_rfl, by kernel_rfl⟩

/-! ## f86 -/

noncomputable def c_86 : Code := body0 Go.Proofs.Try.f86

def fin86 (r : ((Bool × (List Int)) × (Bool × (List Int)))) : Ex → St → Prop := endK X0 [.cell 4 100] [100] (.d t99 r)

def F86 (a0 : (Bool × (List Int)) × (Bool × (List Int))) (a1 : (Bool × (List Int)) × (Bool × (List Int))) : Option (((Bool × (List Int)) × (Bool × (List Int)))) :=
  (F59 a0 a1).bind fun y1 =>
  some y1

theorem c86 {a0 : (Bool × (List Int)) × (Bool × (List Int))} {a1 : (Bool × (List Int)) × (Bool × (List Int))} {r : ((Bool × (List Int)) × (Bool × (List Int)))} (h : F86 a0 a1 = some r) : CallPure Pg 86 [(.d t99 a0), (.d t99 a1)] (.d t99 r) := by
  refine callPureN hX c_86 8 [.cell 4 100] [100] Go.Proofs.Try.func86 (by kernel_rfl) (by kernel_rfl) (by kernel_rfl) (Nat.le_of_ble_eq_true rfl) rfl rfl ?_
  show Run Pg 8 c_86 ⟨[(0, (.d t99 a0)), (1, (.d t99 a1))], []⟩ (fin86 r)
  unfold F86 at h
  refine Run.regN hX [] 100 [2, 3, 4] [100, 101, 102] ⟨[(2, (.ptr 100 0)), (3, (.ptr 101 0)), (4, (.ptr 102 0))], [(100, (.box (.vcons (.d t99 a0) .vnil))), (101, (.box (.vcons (.d t99 a1) .vnil))), (102, (.box (.vcons (.d t99 ((false, ([] : List Int)), (false, ([] : List Int)))) .vnil)))]⟩ [] (by kernel_rfl) (by kernel_rfl) trivial ?_
  obtain ⟨y1, h_y1, h⟩ := bnd_elim h
  refine Run.regN hX [(2, .call (.d t99 y1))] 200 [4] [102] ⟨[(4, (.ptr 102 0))], [(102, (.box (.vcons (.d t99 y1) .vnil)))]⟩ [CallPure Pg 59 [(.d t99 a0), (.d t99 a1)] (.d t99 y1)] (by kernel_rfl) (by kernel_rfl) ⟨(c59 h_y1), trivial⟩ ?_
  refine Run.retN (by kernel_rfl) ?_
  replace h := Option.some.inj h
  subst h
  exact ⟨[(.d t99 y1)], by kernel_rfl, by kernel_rfl⟩

/-! ## f83 -/

noncomputable def c_83 : Code := body0 Go.Proofs.Try.f83

def fin83 (r : ((Bool × (List Int)) × (Bool × (List Int)))) : Ex → St → Prop := endK X0 [.cell 4 100] [100] (.d t99 r)

def F83 (a0 : ((Bool × (List Int)) × (Bool × (List Int))) × ((Bool × (List Int)) × (Bool × (List Int)))) (a1 : ((Bool × (List Int)) × (Bool × (List Int))) × ((Bool × (List Int)) × (Bool × (List Int)))) : Option (((Bool × (List Int)) × (Bool × (List Int)))) :=
  (F86 a0.1 a1.2).bind fun y1 =>
  (F86 a0.2 a1.1).bind fun y2 =>
  (F91 y1 y2).bind fun y3 =>
  some y3

theorem c83 {a0 : ((Bool × (List Int)) × (Bool × (List Int))) × ((Bool × (List Int)) × (Bool × (List Int)))} {a1 : ((Bool × (List Int)) × (Bool × (List Int))) × ((Bool × (List Int)) × (Bool × (List Int)))} {r : ((Bool × (List Int)) × (Bool × (List Int)))} (h : F83 a0 a1 = some r) : CallPure Pg 83 [(.d t103 a0), (.d t103 a1)] (.d t99 r) := by
  refine callPureN hX c_83 16 [.cell 4 100] [100] Go.Proofs.Try.func83 (by kernel_rfl) (by kernel_rfl) (by kernel_rfl) (Nat.le_of_ble_eq_true rfl) rfl rfl ?_
  show Run Pg 16 c_83 ⟨[(0, (.d t103 a0)), (1, (.d t103 a1))], []⟩ (fin83 r)
  unfold F83 at h
  refine Run.regN hX [] 100 [2, 3, 4] [100, 101, 102] ⟨[(2, (.ptr 100 0)), (3, (.ptr 101 0)), (4, (.ptr 102 0))], [(100, (.box (.vcons (.d t103 a0) .vnil))), (101, (.box (.vcons (.d t103 a1) .vnil))), (102, (.box (.vcons (.d t99 ((false, ([] : List Int)), (false, ([] : List Int)))) .vnil)))]⟩ [] (by kernel_rfl) (by kernel_rfl) trivial ?_
  obtain ⟨y1, h_y1, h⟩ := bnd_elim h
  obtain ⟨y2, h_y2, h⟩ := bnd_elim h
  obtain ⟨y3, h_y3, h⟩ := bnd_elim h
  refine Run.regN hX [(4, .call (.d t99 y1)), (9, .call (.d t99 y2)), (10, .call (.d t99 y3))] 200 [4] [102] ⟨[(4, (.ptr 102 0))], [(102, (.box (.vcons (.d t99 y3) .vnil)))]⟩ [CallPure Pg 86 [(.d t99 a0.1), (.d t99 a1.2)] (.d t99 y1), CallPure Pg 86 [(.d t99 a0.2), (.d t99 a1.1)] (.d t99 y2), CallPure Pg 91 [(.d t99 y1), (.d t99 y2)] (.d t99 y3)] (by kernel_rfl) (by kernel_rfl) ⟨(c86 h_y1), (c86 h_y2), (c91 h_y3), trivial⟩ ?_
  refine Run.retN (by kernel_rfl) ?_
  replace h := Option.some.inj h
  subst h
  exact ⟨[(.d t99 y3)], by kernel_rfl, by kernel_rfl⟩

/-! ## f68 -/

noncomputable def c_68 : Code := body0 Go.Proofs.Try.f68

def fin68 (r : Int) : Ex → St → Prop := endK X0 [.tmp 2] [3] (.d t2 r)

def F68 (a0 : (Bool × (List Int)) × (Bool × (List Int))) : Option (Int) :=
  (F75 a0.1).bind fun y1 =>
  some y1

theorem c68 {a0 : (Bool × (List Int)) × (Bool × (List Int))} {r : Int} (h : F68 a0 = some r) : CallPure Pg 68 [(.d t99 a0)] (.d t2 r) := by
  refine callPureN hX c_68 6 [.tmp 2] [3] Go.Proofs.Try.func68 (by kernel_rfl) (by kernel_rfl) (by kernel_rfl) (Nat.le_of_ble_eq_true rfl) rfl rfl ?_
  show Run Pg 6 c_68 ⟨[(0, (.d t99 a0))], []⟩ (fin68 r)
  unfold F68 at h
  refine Run.regN hX [] 100 [1] [100] ⟨[(1, (.ptr 100 0))], [(100, (.box (.vcons (.d t99 a0) .vnil)))]⟩ [] (by kernel_rfl) (by kernel_rfl) trivial ?_
  obtain ⟨y1, h_y1, h⟩ := bnd_elim h
  refine Run.regN hX [(2, .call (.d t2 y1))] 200 [2] [] ⟨[(2, (.d t2 y1))], []⟩ [CallPure Pg 75 [(.d t97 a0.1)] (.d t2 y1)] (by kernel_rfl) (by kernel_rfl) ⟨(c75 h_y1), trivial⟩ ?_
  refine Run.retN (by kernel_rfl) ?_
  replace h := Option.some.inj h
  subst h
  exact ⟨[(.d t2 y1)], by kernel_rfl, by kernel_rfl⟩

/-! ## f70 -/

noncomputable def c_70 : Code := body0 Go.Proofs.Try.f70

def fin70 (r : Bool) : Ex → St → Prop := endK X0 [.tmp 8] [4] (.d t4 r)

def F70 (a0 : ((Bool × (List Int)) × (Bool × (List Int))) × ((Bool × (List Int)) × (Bool × (List Int)))) (a1 : ((Bool × (List Int)) × (Bool × (List Int))) × ((Bool × (List Int)) × (Bool × (List Int)))) (a2 : ((Bool × (List Int)) × (Bool × (List Int))) × ((Bool × (List Int)) × (Bool × (List Int)))) (a3 : ((Bool × (List Int)) × (Bool × (List Int))) × ((Bool × (List Int)) × (Bool × (List Int)))) : Option (Bool) :=
  (F82 a0 a1).bind fun y1 =>
  (F82 a2 a3).bind fun y2 =>
  (F82 a0 a2).bind fun y3 =>
  (F83 y1 y3).bind fun y4 =>
  (F68 y4).bind fun y5 =>
  (F82 a0 a3).bind fun y6 =>
  (F83 y1 y6).bind fun y7 =>
  (F68 y7).bind fun y8 =>
  (bif (decide ((wrapI .i64 (y5 * y8)) < (0 : Int))) then
    (F82 a2 a0).bind fun y9 =>
    (F83 y2 y9).bind fun y10 =>
    (F68 y10).bind fun y11 =>
    (F82 a2 a1).bind fun y12 =>
    (F83 y2 y12).bind fun y13 =>
    (F68 y13).bind fun y14 =>
    some (decide ((wrapI .i64 (y11 * y14)) < (0 : Int)))
  else
    some false)

theorem c70 {a0 : ((Bool × (List Int)) × (Bool × (List Int))) × ((Bool × (List Int)) × (Bool × (List Int)))} {a1 : ((Bool × (List Int)) × (Bool × (List Int))) × ((Bool × (List Int)) × (Bool × (List Int)))} {a2 : ((Bool × (List Int)) × (Bool × (List Int))) × ((Bool × (List Int)) × (Bool × (List Int)))} {a3 : ((Bool × (List Int)) × (Bool × (List Int))) × ((Bool × (List Int)) × (Bool × (List Int)))} {r : Bool} (h : F70 a0 a1 a2 a3 = some r) : CallPure Pg 70 [(.d t103 a0), (.d t103 a1), (.d t103 a2), (.d t103 a3)] (.d t4 r) := by
  refine callPureN hX c_70 47 [.tmp 8] [4] Go.Proofs.Try.func70 (by kernel_rfl) (by kernel_rfl) (by kernel_rfl) (Nat.le_of_ble_eq_true rfl) rfl rfl ?_
  show Run Pg 47 c_70 ⟨[(0, (.d t103 a0)), (1, (.d t103 a1)), (2, (.d t103 a2)), (3, (.d t103 a3))], []⟩ (fin70 r)
  unfold F70 at h
  refine Run.regN hX [] 100 [4, 5, 6, 7] [100, 101, 102, 103] ⟨[(4, (.ptr 100 0)), (5, (.ptr 101 0)), (6, (.ptr 102 0)), (7, (.ptr 103 0))], [(100, (.box (.vcons (.d t103 a0) .vnil))), (101, (.box (.vcons (.d t103 a1) .vnil))), (102, (.box (.vcons (.d t103 a2) .vnil))), (103, (.box (.vcons (.d t103 a3) .vnil)))]⟩ [] (by kernel_rfl) (by kernel_rfl) trivial ?_
  obtain ⟨y1, h_y1, h⟩ := bnd_elim h
  obtain ⟨y2, h_y2, h⟩ := bnd_elim h
  refine Run.regN hX [(2, .call (.d t103 y1)), (5, .call (.d t103 y2))] 200 [4, 5, 6, 7, 9, 10] [100, 101, 102, 103, 206, 207] ⟨[(4, (.ptr 100 0)), (5, (.ptr 101 0)), (6, (.ptr 102 0)), (7, (.ptr 103 0)), (9, (.ptr 206 0)), (10, (.ptr 207 0))], [(100, (.box (.vcons (.d t103 a0) .vnil))), (101, (.box (.vcons (.d t103 a1) .vnil))), (102, (.box (.vcons (.d t103 a2) .vnil))), (103, (.box (.vcons (.d t103 a3) .vnil))), (206, (.box (.vcons (.d t103 y1) .vnil))), (207, (.box (.vcons (.d t103 y2) .vnil)))]⟩ [CallPure Pg 82 [(.d t103 a0), (.d t103 a1)] (.d t103 y1), CallPure Pg 82 [(.d t103 a2), (.d t103 a3)] (.d t103 y2)] (by kernel_rfl) (by kernel_rfl) ⟨(c82 h_y1), (c82 h_y2), trivial⟩ ?_
  obtain ⟨y3, h_y3, h⟩ := bnd_elim h
  obtain ⟨y4, h_y4, h⟩ := bnd_elim h
  obtain ⟨y5, h_y5, h⟩ := bnd_elim h
  obtain ⟨y6, h_y6, h⟩ := bnd_elim h
  obtain ⟨y7, h_y7, h⟩ := bnd_elim h
  obtain ⟨y8, h_y8, h⟩ := bnd_elim h
  rcases bif_elim h with ⟨hb6, h⟩ | ⟨hb6, h⟩
  · obtain ⟨y9, h_y9, h⟩ := bnd_elim h
    obtain ⟨y10, h_y10, h⟩ := bnd_elim h
    obtain ⟨y11, h_y11, h⟩ := bnd_elim h
    obtain ⟨y12, h_y12, h⟩ := bnd_elim h
    obtain ⟨y13, h_y13, h⟩ := bnd_elim h
    obtain ⟨y14, h_y14, h⟩ := bnd_elim h
    refine Run.regN hX [(3, .call (.d t103 y3)), (4, .call (.d t99 y4)), (5, .call (.d t2 y5)), (9, .call (.d t103 y6)), (10, .call (.d t99 y7)), (11, .call (.d t2 y8)), (14, .b true), (18, .call (.d t103 y9)), (19, .call (.d t99 y10)), (20, .call (.d t2 y11)), (24, .call (.d t103 y12)), (25, .call (.d t99 y13)), (26, .call (.d t2 y14))] 300 [8] [] ⟨[(8, (.d t4 (decide ((wrapI .i64 (y11 * y14)) < (0 : Int)))))], []⟩ [CallPure Pg 82 [(.d t103 a0), (.d t103 a2)] (.d t103 y3), CallPure Pg 83 [(.d t103 y1), (.d t103 y3)] (.d t99 y4), CallPure Pg 68 [(.d t99 y4)] (.d t2 y5), CallPure Pg 82 [(.d t103 a0), (.d t103 a3)] (.d t103 y6), CallPure Pg 83 [(.d t103 y1), (.d t103 y6)] (.d t99 y7), CallPure Pg 68 [(.d t99 y7)] (.d t2 y8), (decide ((wrapI .i64 (y5 * y8)) < (0 : Int))) = true, CallPure Pg 82 [(.d t103 a2), (.d t103 a0)] (.d t103 y9), CallPure Pg 83 [(.d t103 y2), (.d t103 y9)] (.d t99 y10), CallPure Pg 68 [(.d t99 y10)] (.d t2 y11), CallPure Pg 82 [(.d t103 a2), (.d t103 a1)] (.d t103 y12), CallPure Pg 83 [(.d t103 y2), (.d t103 y12)] (.d t99 y13), CallPure Pg 68 [(.d t99 y13)] (.d t2 y14)] (by kernel_rfl) (by kernel_rfl) ⟨(c82 h_y3), (c83 h_y4), (c68 h_y5), (c82 h_y6), (c83 h_y7), (c68 h_y8), hb6, (c82 h_y9), (c83 h_y10), (c68 h_y11), (c82 h_y12), (c83 h_y13), (c68 h_y14), trivial⟩ ?_
    refine Run.retN (by kernel_rfl) ?_
    replace h := Option.some.inj h
    subst h
    exact ⟨[(.d t4 (decide ((wrapI .i64 (y11 * y14)) < (0 : Int))))], by kernel_rfl, by kernel_rfl⟩
  · refine Run.regN hX [(3, .call (.d t103 y3)), (4, .call (.d t99 y4)), (5, .call (.d t2 y5)), (9, .call (.d t103 y6)), (10, .call (.d t99 y7)), (11, .call (.d t2 y8)), (14, .b false)] 300 [8] [] ⟨[(8, (.d t4 false))], []⟩ [CallPure Pg 82 [(.d t103 a0), (.d t103 a2)] (.d t103 y3), CallPure Pg 83 [(.d t103 y1), (.d t103 y3)] (.d t99 y4), CallPure Pg 68 [(.d t99 y4)] (.d t2 y5), CallPure Pg 82 [(.d t103 a0), (.d t103 a3)] (.d t103 y6), CallPure Pg 83 [(.d t103 y1), (.d t103 y6)] (.d t99 y7), CallPure Pg 68 [(.d t99 y7)] (.d t2 y8), (decide ((wrapI .i64 (y5 * y8)) < (0 : Int))) = false] (by kernel_rfl) (by kernel_rfl) ⟨(c82 h_y3), (c83 h_y4), (c68 h_y5), (c82 h_y6), (c83 h_y7), (c68 h_y8), hb6, trivial⟩ ?_
    refine Run.retN (by kernel_rfl) ?_
    replace h := Option.some.inj h
    subst h
    exact ⟨[(.d t4 false)], by kernel_rfl, by kernel_rfl⟩

/-! ## f92 -/

noncomputable def c_92 : Code := body0 Go.Proofs.Try.f92

def fin92 (r : ((Bool × (List Int)) × (Bool × (List Int)))) : Ex → St → Prop := endK X0 [.cell 4 100] [100] (.d t99 r)

def F92 (a0 : (Bool × (List Int)) × (Bool × (List Int))) (a1 : (Bool × (List Int)) × (Bool × (List Int))) : Option (((Bool × (List Int)) × (Bool × (List Int)))) :=
  (F100 a0 a1).bind fun y1 =>
  some y1

theorem c92 {a0 : (Bool × (List Int)) × (Bool × (List Int))} {a1 : (Bool × (List Int)) × (Bool × (List Int))} {r : ((Bool × (List Int)) × (Bool × (List Int)))} (h : F92 a0 a1 = some r) : CallPure Pg 92 [(.d t99 a0), (.d t99 a1)] (.d t99 r) := by
  refine callPureN hX c_92 8 [.cell 4 100] [100] Go.Proofs.Try.func92 (by kernel_rfl) (by kernel_rfl) (by kernel_rfl) (Nat.le_of_ble_eq_true rfl) rfl rfl ?_
  show Run Pg 8 c_92 ⟨[(0, (.d t99 a0)), (1, (.d t99 a1))], []⟩ (fin92 r)
  unfold F92 at h
  refine Run.regN hX [] 100 [2, 3, 4] [100, 101, 102] ⟨[(2, (.ptr 100 0)), (3, (.ptr 101 0)), (4, (.ptr 102 0))], [(100, (.box (.vcons (.d t99 a0) .vnil))), (101, (.box (.vcons (.d t99 a1) .vnil))), (102, (.box (.vcons (.d t99 ((false, ([] : List Int)), (false, ([] : List Int)))) .vnil)))]⟩ [] (by kernel_rfl) (by kernel_rfl) trivial ?_
  obtain ⟨y1, h_y1, h⟩ := bnd_elim h
  refine Run.regN hX [(2, .call (.d t99 y1))] 200 [4] [102] ⟨[(4, (.ptr 102 0))], [(102, (.box (.vcons (.d t99 y1) .vnil)))]⟩ [CallPure Pg 100 [(.d t99 a0), (.d t99 a1)] (.d t99 y1)] (by kernel_rfl) (by kernel_rfl) ⟨(c100 h_y1), trivial⟩ ?_
  refine Run.retN (by kernel_rfl) ?_
  replace h := Option.some.inj h
  subst h
  exact ⟨[(.d t99 y1)], by kernel_rfl, by kernel_rfl⟩

/-! ## f84 -/

noncomputable def c_84 : Code := body0 Go.Proofs.Try.f84

def fin84 (r : ((Bool × (List Int)) × (Bool × (List Int)))) : Ex → St → Prop := endK X0 [.cell 4 100] [100] (.d t99 r)

def F84 (a0 : ((Bool × (List Int)) × (Bool × (List Int))) × ((Bool × (List Int)) × (Bool × (List Int)))) (a1 : ((Bool × (List Int)) × (Bool × (List Int))) × ((Bool × (List Int)) × (Bool × (List Int)))) : Option (((Bool × (List Int)) × (Bool × (List Int)))) :=
  (F86 a0.1 a1.1).bind fun y1 =>
  (F86 a0.2 a1.2).bind fun y2 =>
  (F92 y1 y2).bind fun y3 =>
  some y3

theorem c84 {a0 : ((Bool × (List Int)) × (Bool × (List Int))) × ((Bool × (List Int)) × (Bool × (List Int)))} {a1 : ((Bool × (List Int)) × (Bool × (List Int))) × ((Bool × (List Int)) × (Bool × (List Int)))} {r : ((Bool × (List Int)) × (Bool × (List Int)))} (h : F84 a0 a1 = some r) : CallPure Pg 84 [(.d t103 a0), (.d t103 a1)] (.d t99 r) := by
  refine callPureN hX c_84 16 [.cell 4 100] [100] Go.Proofs.Try.func84 (by kernel_rfl) (by kernel_rfl) (by kernel_rfl) (Nat.le_of_ble_eq_true rfl) rfl rfl ?_
  show Run Pg 16 c_84 ⟨[(0, (.d t103 a0)), (1, (.d t103 a1))], []⟩ (fin84 r)
  unfold F84 at h
  refine Run.regN hX [] 100 [2, 3, 4] [100, 101, 102] ⟨[(2, (.ptr 100 0)), (3, (.ptr 101 0)), (4, (.ptr 102 0))], [(100, (.box (.vcons (.d t103 a0) .vnil))), (101, (.box (.vcons (.d t103 a1) .vnil))), (102, (.box (.vcons (.d t99 ((false, ([] : List Int)), (false, ([] : List Int)))) .vnil)))]⟩ [] (by kernel_rfl) (by kernel_rfl) trivial ?_
  obtain ⟨y1, h_y1, h⟩ := bnd_elim h
  obtain ⟨y2, h_y2, h⟩ := bnd_elim h
  obtain ⟨y3, h_y3, h⟩ := bnd_elim h
  refine Run.regN hX [(4, .call (.d t99 y1)), (9, .call (.d t99 y2)), (10, .call (.d t99 y3))] 200 [4] [102] ⟨[(4, (.ptr 102 0))], [(102, (.box (.vcons (.d t99 y3) .vnil)))]⟩ [CallPure Pg 86 [(.d t99 a0.1), (.d t99 a1.1)] (.d t99 y1), CallPure Pg 86 [(.d t99 a0.2), (.d t99 a1.2)] (.d t99 y2), CallPure Pg 92 [(.d t99 y1), (.d t99 y2)] (.d t99 y3)] (by kernel_rfl) (by kernel_rfl) ⟨(c86 h_y1), (c86 h_y2), (c92 h_y3), trivial⟩ ?_
  refine Run.retN (by kernel_rfl) ?_
  replace h := Option.some.inj h
  subst h
  exact ⟨[(.d t99 y3)], by kernel_rfl, by kernel_rfl⟩

/-! ## f80 -/

noncomputable def c_80 : Code := body0 Go.Proofs.Try.f80

def fin80 (r : Bool) : Ex → St → Prop := endK X0 [.tmp 2] [4] (.d t4 r)

def F80 (a0 : Int) : Option (Bool) :=
  some (a0 != a0)

theorem c80 {a0 : Int} {r : Bool} (h : F80 a0 = some r) : CallPure Pg 80 [(.d t2 a0)] (.d t4 r) := by
  refine callPureN hX c_80 6 [.tmp 2] [4] Go.Proofs.Try.func80 (by kernel_rfl) (by kernel_rfl) (by kernel_rfl) (Nat.le_of_ble_eq_true rfl) rfl rfl ?_
  show Run Pg 6 c_80 ⟨[(0, (.d t2 a0))], []⟩ (fin80 r)
  unfold F80 at h
  refine Run.regN hX [] 100 [0] [] ⟨[(0, (.d t2 a0))], []⟩ [] (by kernel_rfl) (by kernel_rfl) trivial ?_
  refine Run.regN hX [] 200 [2] [] ⟨[(2, (.d t4 (a0 != a0)))], []⟩ [] (by kernel_rfl) (by kernel_rfl) trivial ?_
  refine Run.retN (by kernel_rfl) ?_
  replace h := Option.some.inj h
  subst h
  exact ⟨[(.d t4 (a0 != a0))], by kernel_rfl, by kernel_rfl⟩

/-! ## f67 -/

noncomputable def c_67 : Code := body0 Go.Proofs.Try.f67

def fin67 (r : Int) : Ex → St → Prop := endK X0 [.tmp 4] [3] (.d t2 r)

def F67 (a0 : Int) (a1 : Int) : Option (Int) :=
  (F80 a0).bind fun y1 =>
  (F80 a1).bind fun y2 =>
  (bif y1 then
    (bif y2 then
      some (0 : Int)
    else
      some (-1 : Int))
  else
    (bif y2 then
      some (1 : Int)
    else
      (bif (decide (a0 < a1)) then
        some (-1 : Int)
      else
        (bif (decide (a1 < a0)) then
          some (1 : Int)
        else
          some (0 : Int)))))

theorem c67 {a0 : Int} {a1 : Int} {r : Int} (h : F67 a0 a1 = some r) : CallPure Pg 67 [(.d t2 a0), (.d t2 a1)] (.d t2 r) := by
  refine callPureN hX c_67 20 [.tmp 4] [3] Go.Proofs.Try.func67 (by kernel_rfl) (by kernel_rfl) (by kernel_rfl) (Nat.le_of_ble_eq_true rfl) rfl rfl ?_
  show Run Pg 20 c_67 ⟨[(0, (.d t2 a0)), (1, (.d t2 a1))], []⟩ (fin67 r)
  unfold F67 at h
  refine Run.regN hX [] 100 [0, 1] [] ⟨[(0, (.d t2 a0)), (1, (.d t2 a1))], []⟩ [] (by kernel_rfl) (by kernel_rfl) trivial ?_
  obtain ⟨y1, h_y1, h⟩ := bnd_elim h
  refine Run.regN hX [(1, .call (.d t4 y1))] 200 [0, 1, 5] [] ⟨[(0, (.d t2 a0)), (1, (.d t2 a1)), (5, (.d t4 y1))], []⟩ [CallPure Pg 80 [(.d t2 a0)] (.d t4 y1)] (by kernel_rfl) (by kernel_rfl) ⟨(c80 h_y1), trivial⟩ ?_
  obtain ⟨y2, h_y2, h⟩ := bnd_elim h
  refine Run.regN hX [(1, .call (.d t4 y2))] 300 [0, 1, 5, 6] [] ⟨[(0, (.d t2 a0)), (1, (.d t2 a1)), (5, (.d t4 y1)), (6, (.d t4 y2))], []⟩ [CallPure Pg 80 [(.d t2 a1)] (.d t4 y2)] (by kernel_rfl) (by kernel_rfl) ⟨(c80 h_y2), trivial⟩ ?_
  refine Run.seqN (by kernel_rfl) ?_
  refine Run.regN hX [] 400 [0, 1, 6, 11] [] ⟨[(0, (.d t2 a0)), (1, (.d t2 a1)), (6, (.d t4 y2)), (11, (.d t4 y1))], []⟩ [] (by kernel_rfl) (by kernel_rfl) trivial ?_
  refine Run.condN y1 (by kernel_rfl) (fun hb => ?_) (fun hb => ?_)
  · replace h := bif_t h hb
    refine Run.seqN (by kernel_rfl) ?_
    refine Run.regN hX [] 500 [12] [] ⟨[(12, (.d t4 y2))], []⟩ [] (by kernel_rfl) (by kernel_rfl) trivial ?_
    refine Run.condN y2 (by kernel_rfl) (fun hb => ?_) (fun hb => ?_)
    · replace h := bif_t h hb
      refine Run.regN hX [] 600 [4] [] ⟨[(4, (.d t2 (0 : Int)))], []⟩ [] (by kernel_rfl) (by kernel_rfl) trivial ?_
      refine Run.retN (by kernel_rfl) ?_
      replace h := Option.some.inj h
      subst h
      exact ⟨[(.d t2 (0 : Int))], by kernel_rfl, by kernel_rfl⟩
    · replace h := bif_f h hb
      refine Run.skipN (by kernel_rfl) ?_
      show Run Pg 20 _ _ _
      refine Run.regN hX [] 700 [4] [] ⟨[(4, (.d t2 (-1 : Int)))], []⟩ [] (by kernel_rfl) (by kernel_rfl) trivial ?_
      refine Run.retN (by kernel_rfl) ?_
      replace h := Option.some.inj h
      subst h
      exact ⟨[(.d t2 (-1 : Int))], by kernel_rfl, by kernel_rfl⟩
  · replace h := bif_f h hb
    refine Run.skipN (by kernel_rfl) ?_
    show Run Pg 20 _ _ _
    refine Run.seqN (by kernel_rfl) ?_
    refine Run.regN hX [] 800 [0, 1, 13] [] ⟨[(0, (.d t2 a0)), (1, (.d t2 a1)), (13, (.d t4 y2))], []⟩ [] (by kernel_rfl) (by kernel_rfl) trivial ?_
    refine Run.condN y2 (by kernel_rfl) (fun hb => ?_) (fun hb => ?_)
    · replace h := bif_t h hb
      refine Run.regN hX [] 900 [4] [] ⟨[(4, (.d t2 (1 : Int)))], []⟩ [] (by kernel_rfl) (by kernel_rfl) trivial ?_
      refine Run.retN (by kernel_rfl) ?_
      replace h := Option.some.inj h
      subst h
      exact ⟨[(.d t2 (1 : Int))], by kernel_rfl, by kernel_rfl⟩
    · replace h := bif_f h hb
      refine Run.skipN (by kernel_rfl) ?_
      show Run Pg 20 _ _ _
      refine Run.seqN (by kernel_rfl) ?_
      refine Run.regN hX [] 1000 [0, 1, 16] [] ⟨[(0, (.d t2 a0)), (1, (.d t2 a1)), (16, (.d t4 (decide (a0 < a1))))], []⟩ [] (by kernel_rfl) (by kernel_rfl) trivial ?_
      refine Run.condN (decide (a0 < a1)) (by kernel_rfl) (fun hb => ?_) (fun hb => ?_)
      · replace h := bif_t h hb
        refine Run.regN hX [] 1100 [4] [] ⟨[(4, (.d t2 (-1 : Int)))], []⟩ [] (by kernel_rfl) (by kernel_rfl) trivial ?_
        refine Run.retN (by kernel_rfl) ?_
        replace h := Option.some.inj h
        subst h
        exact ⟨[(.d t2 (-1 : Int))], by kernel_rfl, by kernel_rfl⟩
      · replace h := bif_f h hb
        refine Run.skipN (by kernel_rfl) ?_
        show Run Pg 20 _ _ _
        refine Run.seqN (by kernel_rfl) ?_
        refine Run.regN hX [] 1200 [19] [] ⟨[(19, (.d t4 (decide (a1 < a0))))], []⟩ [] (by kernel_rfl) (by kernel_rfl) trivial ?_
        refine Run.condN (decide (a1 < a0)) (by kernel_rfl) (fun hb => ?_) (fun hb => ?_)
        · replace h := bif_t h hb
          refine Run.regN hX [] 1300 [4] [] ⟨[(4, (.d t2 (1 : Int)))], []⟩ [] (by kernel_rfl) (by kernel_rfl) trivial ?_
          refine Run.retN (by kernel_rfl) ?_
          replace h := Option.some.inj h
          subst h
          exact ⟨[(.d t2 (1 : Int))], by kernel_rfl, by kernel_rfl⟩
        · replace h := bif_f h hb
          refine Run.skipN (by kernel_rfl) ?_
          show Run Pg 20 _ _ _
          refine Run.regN hX [] 1400 [4] [] ⟨[(4, (.d t2 (0 : Int)))], []⟩ [] (by kernel_rfl) (by kernel_rfl) trivial ?_
          refine Run.retN (by kernel_rfl) ?_
          replace h := Option.some.inj h
          subst h
          exact ⟨[(.d t2 (0 : Int))], by kernel_rfl, by kernel_rfl⟩

/-! ## f61 -/

noncomputable def c_61 : Code := body0 Go.Proofs.Try.f61

def fin61 (r : Int) : Ex → St → Prop := endK X0 [.tmp 4] [3] (.d t2 r)

def F61 (a0 : (Bool × (List Int)) × (Bool × (List Int))) (a1 : (Bool × (List Int)) × (Bool × (List Int))) : Option (Int) :=
  (F68 a0).bind fun y1 =>
  (F68 a1).bind fun y2 =>
  (F67 y1 y2).bind fun y3 =>
  (bif (y3 != (0 : Int)) then
    some y3
  else
    (F66 a0.1 a1.2).bind fun y4 =>
    (F66 a1.1 a0.2).bind fun y5 =>
    (F69 y4 y5).bind fun y6 =>
    some y6)

theorem c61 {a0 : (Bool × (List Int)) × (Bool × (List Int))} {a1 : (Bool × (List Int)) × (Bool × (List Int))} {r : Int} (h : F61 a0 a1 = some r) : CallPure Pg 61 [(.d t99 a0), (.d t99 a1)] (.d t2 r) := by
  refine callPureN hX c_61 25 [.tmp 4] [3] Go.Proofs.Try.func61 (by kernel_rfl) (by kernel_rfl) (by kernel_rfl) (Nat.le_of_ble_eq_true rfl) rfl rfl ?_
  show Run Pg 25 c_61 ⟨[(0, (.d t99 a0)), (1, (.d t99 a1))], []⟩ (fin61 r)
  unfold F61 at h
  refine Run.regN hX [] 100 [2, 3] [100, 101] ⟨[(2, (.ptr 100 0)), (3, (.ptr 101 0))], [(100, (.box (.vcons (.d t99 a0) .vnil))), (101, (.box (.vcons (.d t99 a1) .vnil)))]⟩ [] (by kernel_rfl) (by kernel_rfl) trivial ?_
  refine Run.seqN (by kernel_rfl) ?_
  obtain ⟨y1, h_y1, h⟩ := bnd_elim h
  obtain ⟨y2, h_y2, h⟩ := bnd_elim h
  obtain ⟨y3, h_y3, h⟩ := bnd_elim h
  refine Run.regN hX [(1, .call (.d t2 y1)), (3, .call (.d t2 y2)), (4, .call (.d t2 y3))] 200 [2, 3, 5] [100, 101] ⟨[(2, (.ptr 100 0)), (3, (.ptr 101 0)), (5, (.d t2 y3))], [(100, (.box (.vcons (.d t99 a0) .vnil))), (101, (.box (.vcons (.d t99 a1) .vnil)))]⟩ [CallPure Pg 68 [(.d t99 a0)] (.d t2 y1), CallPure Pg 68 [(.d t99 a1)] (.d t2 y2), CallPure Pg 67 [(.d t2 y1), (.d t2 y2)] (.d t2 y3)] (by kernel_rfl) (by kernel_rfl) ⟨(c68 h_y1), (c68 h_y2), (c67 h_y3), trivial⟩ ?_
  refine Run.regN hX [] 300 [2, 3, 5, 12] [100, 101] ⟨[(2, (.ptr 100 0)), (3, (.ptr 101 0)), (5, (.d t2 y3)), (12, (.d t4 (y3 != (0 : Int))))], [(100, (.box (.vcons (.d t99 a0) .vnil))), (101, (.box (.vcons (.d t99 a1) .vnil)))]⟩ [] (by kernel_rfl) (by kernel_rfl) trivial ?_
  refine Run.condN (y3 != (0 : Int)) (by kernel_rfl) (fun hb => ?_) (fun hb => ?_)
  · replace h := bif_t h hb
    refine Run.regN hX [] 400 [4] [] ⟨[(4, (.d t2 y3))], []⟩ [] (by kernel_rfl) (by kernel_rfl) trivial ?_
    refine Run.retN (by kernel_rfl) ?_
    replace h := Option.some.inj h
    subst h
    exact ⟨[(.d t2 y3)], by kernel_rfl, by kernel_rfl⟩
  · replace h := bif_f h hb
    refine Run.skipN (by kernel_rfl) ?_
    show Run Pg 25 _ _ _
    obtain ⟨y4, h_y4, h⟩ := bnd_elim h
    obtain ⟨y5, h_y5, h⟩ := bnd_elim h
    obtain ⟨y6, h_y6, h⟩ := bnd_elim h
    refine Run.regN hX [(4, .call (.d t97 y4)), (9, .call (.d t97 y5)), (10, .call (.d t2 y6))] 500 [4] [] ⟨[(4, (.d t2 y6))], []⟩ [CallPure Pg 66 [(.d t97 a0.1), (.d t97 a1.2)] (.d t97 y4), CallPure Pg 66 [(.d t97 a1.1), (.d t97 a0.2)] (.d t97 y5), CallPure Pg 69 [(.d t97 y4), (.d t97 y5)] (.d t2 y6)] (by kernel_rfl) (by kernel_rfl) ⟨(c66 h_y4), (c66 h_y5), (c69 h_y6), trivial⟩ ?_
    refine Run.retN (by kernel_rfl) ?_
    replace h := Option.some.inj h
    subst h
    exact ⟨[(.d t2 y6)], by kernel_rfl, by kernel_rfl⟩

/-! ## f93 -/

noncomputable def c_93 : Code := body0 Go.Proofs.Try.f93

def fin93 (r : ((Bool × (List Int)) × (Bool × (List Int))) × Int) : Ex → St → Prop := endK X0 [.cell 4 100, .tmp 5] [100, 32] (.tup (.vcons (.d t99 r.1) (.vcons (.d t2 r.2) .vnil)))

def F93 (a0 : (Bool × (List Int)) × (Bool × (List Int))) (a1 : (Bool × (List Int)) × (Bool × (List Int))) : Option (((Bool × (List Int)) × (Bool × (List Int))) × Int) :=
  (F68 a1).bind fun y1 =>
  (bif (y1 == (0 : Int)) then
    some (((false, ([] : List Int)), (false, ([] : List Int))), (6 : Int))
  else
    (F66 a0.1 a1.2).bind fun y2 =>
    (F66 a0.2 a1.1).bind fun y3 =>
    (F65 y2 y3).bind fun y4 =>
    some (y4, (0 : Int)))

theorem c93 {a0 : (Bool × (List Int)) × (Bool × (List Int))} {a1 : (Bool × (List Int)) × (Bool × (List Int))} {r : ((Bool × (List Int)) × (Bool × (List Int))) × Int} (h : F93 a0 a1 = some r) : CallPure Pg 93 [(.d t99 a0), (.d t99 a1)] (.tup (.vcons (.d t99 r.1) (.vcons (.d t2 r.2) .vnil))) := by
  refine callPureN hX c_93 21 [.cell 4 100, .tmp 5] [100, 32] Go.Proofs.Try.func93 (by kernel_rfl) (by kernel_rfl) (by kernel_rfl) (Nat.le_of_ble_eq_true rfl) rfl rfl ?_
  show Run Pg 21 c_93 ⟨[(0, (.d t99 a0)), (1, (.d t99 a1))], []⟩ (fin93 r)
  unfold F93 at h
  refine Run.regN hX [] 100 [2, 3, 4] [100, 101, 102] ⟨[(2, (.ptr 100 0)), (3, (.ptr 101 0)), (4, (.ptr 102 0))], [(100, (.box (.vcons (.d t99 a0) .vnil))), (101, (.box (.vcons (.d t99 a1) .vnil))), (102, (.box (.vcons (.d t99 ((false, ([] : List Int)), (false, ([] : List Int)))) .vnil)))]⟩ [] (by kernel_rfl) (by kernel_rfl) trivial ?_
  refine Run.seqN (by kernel_rfl) ?_
  obtain ⟨y1, h_y1, h⟩ := bnd_elim h
  refine Run.regN hX [(1, .call (.d t2 y1))] 200 [2, 3, 4, 8] [100, 101, 102] ⟨[(2, (.ptr 100 0)), (3, (.ptr 101 0)), (4, (.ptr 102 0)), (8, (.d t4 (y1 == (0 : Int))))], [(100, (.box (.vcons (.d t99 a0) .vnil))), (101, (.box (.vcons (.d t99 a1) .vnil))), (102, (.box (.vcons (.d t99 ((false, ([] : List Int)), (false, ([] : List Int)))) .vnil)))]⟩ [CallPure Pg 68 [(.d t99 a1)] (.d t2 y1)] (by kernel_rfl) (by kernel_rfl) ⟨(c68 h_y1), trivial⟩ ?_
  refine Run.condN (y1 == (0 : Int)) (by kernel_rfl) (fun hb => ?_) (fun hb => ?_)
  · replace h := bif_t h hb
    refine Run.regN hX [] 300 [4, 5] [102] ⟨[(4, (.ptr 102 0)), (5, (.d t2 (6 : Int)))], [(102, (.box (.vcons (.d t99 ((false, ([] : List Int)), (false, ([] : List Int)))) .vnil)))]⟩ [] (by kernel_rfl) (by kernel_rfl) trivial ?_
    refine Run.retN (by kernel_rfl) ?_
    replace h := Option.some.inj h
    subst h
    exact ⟨[(.d t99 ((false, ([] : List Int)), (false, ([] : List Int)))), (.d t2 (6 : Int))], by kernel_rfl, by kernel_rfl⟩
  · replace h := bif_f h hb
    refine Run.skipN (by kernel_rfl) ?_
    show Run Pg 21 _ _ _
    obtain ⟨y2, h_y2, h⟩ := bnd_elim h
    obtain ⟨y3, h_y3, h⟩ := bnd_elim h
    obtain ⟨y4, h_y4, h⟩ := bnd_elim h
    refine Run.regN hX [(4, .call (.d t97 y2)), (9, .call (.d t97 y3)), (10, .call (.d t99 y4))] 400 [4, 5] [102] ⟨[(4, (.ptr 102 0)), (5, (.d t2 (0 : Int)))], [(102, (.box (.vcons (.d t99 y4) .vnil)))]⟩ [CallPure Pg 66 [(.d t97 a0.1), (.d t97 a1.2)] (.d t97 y2), CallPure Pg 66 [(.d t97 a0.2), (.d t97 a1.1)] (.d t97 y3), CallPure Pg 65 [(.d t97 y2), (.d t97 y3)] (.d t99 y4)] (by kernel_rfl) (by kernel_rfl) ⟨(c66 h_y2), (c66 h_y3), (c65 h_y4), trivial⟩ ?_
    refine Run.retN (by kernel_rfl) ?_
    replace h := Option.some.inj h
    subst h
    exact ⟨[(.d t99 y4), (.d t2 (0 : Int))], by kernel_rfl, by kernel_rfl⟩

/-! ## f85 -/

noncomputable def c_85 : Code := body0 Go.Proofs.Try.f85

def fin85 (r : ((Bool × (List Int)) × (Bool × (List Int)))) : Ex → St → Prop := endK X0 [.cell 4 100] [100] (.d t99 r)

def F85 (a0 : (Bool × (List Int)) × (Bool × (List Int))) (a1 : (Bool × (List Int)) × (Bool × (List Int))) : Option (((Bool × (List Int)) × (Bool × (List Int)))) :=
  (F93 a0 a1).bind fun y1 =>
  (bif (y1.2 != (0 : Int)) then
    (F58 (0 : Int)).bind fun y2 =>
    some y2
  else
    some y1.1)

theorem c85 {a0 : (Bool × (List Int)) × (Bool × (List Int))} {a1 : (Bool × (List Int)) × (Bool × (List Int))} {r : ((Bool × (List Int)) × (Bool × (List Int)))} (h : F85 a0 a1 = some r) : CallPure Pg 85 [(.d t99 a0), (.d t99 a1)] (.d t99 r) := by
  refine callPureN hX c_85 17 [.cell 4 100] [100] Go.Proofs.Try.func85 (by kernel_rfl) (by kernel_rfl) (by kernel_rfl) (Nat.le_of_ble_eq_true rfl) rfl rfl ?_
  show Run Pg 17 c_85 ⟨[(0, (.d t99 a0)), (1, (.d t99 a1))], []⟩ (fin85 r)
  unfold F85 at h
  refine Run.regN hX [] 100 [2, 3, 4] [100, 101, 102] ⟨[(2, (.ptr 100 0)), (3, (.ptr 101 0)), (4, (.ptr 102 0))], [(100, (.box (.vcons (.d t99 a0) .vnil))), (101, (.box (.vcons (.d t99 a1) .vnil))), (102, (.box (.vcons (.d t99 ((false, ([] : List Int)), (false, ([] : List Int)))) .vnil)))]⟩ [] (by kernel_rfl) (by kernel_rfl) trivial ?_
  obtain ⟨y1, h_y1, h⟩ := bnd_elim h
  refine Run.regN hX [(2, .call (.tup (.vcons (.d t99 y1.1) (.vcons (.d t2 y1.2) .vnil))))] 200 [4, 5, 6] [102, 206] ⟨[(4, (.ptr 102 0)), (5, (.ptr 206 0)), (6, (.d t2 y1.2))], [(102, (.box (.vcons (.d t99 ((false, ([] : List Int)), (false, ([] : List Int)))) .vnil))), (206, (.box (.vcons (.d t99 y1.1) .vnil)))]⟩ [CallPure Pg 93 [(.d t99 a0), (.d t99 a1)] (.tup (.vcons (.d t99 y1.1) (.vcons (.d t2 y1.2) .vnil)))] (by kernel_rfl) (by kernel_rfl) ⟨(c93 h_y1), trivial⟩ ?_
  refine Run.seqN (by kernel_rfl) ?_
  refine Run.regN hX [] 300 [4, 5, 14] [102, 206] ⟨[(4, (.ptr 102 0)), (5, (.ptr 206 0)), (14, (.d t4 (y1.2 != (0 : Int))))], [(102, (.box (.vcons (.d t99 ((false, ([] : List Int)), (false, ([] : List Int)))) .vnil))), (206, (.box (.vcons (.d t99 y1.1) .vnil)))]⟩ [] (by kernel_rfl) (by kernel_rfl) trivial ?_
  refine Run.condN (y1.2 != (0 : Int)) (by kernel_rfl) (fun hb => ?_) (fun hb => ?_)
  · replace h := bif_t h hb
    obtain ⟨y2, h_y2, h⟩ := bnd_elim h
    refine Run.regN hX [(0, .call (.d t99 y2))] 400 [4] [102] ⟨[(4, (.ptr 102 0))], [(102, (.box (.vcons (.d t99 y2) .vnil)))]⟩ [CallPure Pg 58 [(.d t2 (0 : Int))] (.d t99 y2)] (by kernel_rfl) (by kernel_rfl) ⟨(c58 h_y2), trivial⟩ ?_
    refine Run.retN (by kernel_rfl) ?_
    replace h := Option.some.inj h
    subst h
    exact ⟨[(.d t99 y2)], by kernel_rfl, by kernel_rfl⟩
  · replace h := bif_f h hb
    refine Run.skipN (by kernel_rfl) ?_
    show Run Pg 17 _ _ _
    refine Run.regN hX [] 500 [4] [102] ⟨[(4, (.ptr 102 0))], [(102, (.box (.vcons (.d t99 y1.1) .vnil)))]⟩ [] (by kernel_rfl) (by kernel_rfl) trivial ?_
    refine Run.retN (by kernel_rfl) ?_
    replace h := Option.some.inj h
    subst h
    exact ⟨[(.d t99 y1.1)], by kernel_rfl, by kernel_rfl⟩

/-! ## f71 -/

noncomputable def c_71 : Code := body0 Go.Proofs.Try.f71

def fin71 (r : ((Bool × (List Int)) × (Bool × (List Int)))) : Ex → St → Prop := endK X0 [.cell 6 100] [100] (.d t99 r)

def F71 (a0 : ((Bool × (List Int)) × (Bool × (List Int))) × ((Bool × (List Int)) × (Bool × (List Int)))) (a1 : ((Bool × (List Int)) × (Bool × (List Int))) × ((Bool × (List Int)) × (Bool × (List Int)))) (a2 : ((Bool × (List Int)) × (Bool × (List Int))) × ((Bool × (List Int)) × (Bool × (List Int)))) : Option (((Bool × (List Int)) × (Bool × (List Int)))) :=
  (F82 a0 a1).bind fun y1 =>
  (F82 a0 a2).bind fun y2 =>
  (F84 y1 y1).bind fun y3 =>
  (F84 y1 y2).bind fun y4 =>
  (F68 y4).bind fun y5 =>
  (bif (decide (y5 ≤ (0 : Int))) then
    (F84 y2 y2).bind fun y6 =>
    some y6
  else
    (F61 y4 y3).bind fun y7 =>
    (bif (decide ((0 : Int) ≤ y7)) then
      (F82 a1 a2).bind fun y8 =>
      (F84 y8 y8).bind fun y9 =>
      some y9
    else
      (F83 y1 y2).bind fun y10 =>
      (F86 y10 y10).bind fun y11 =>
      (F85 y11 y3).bind fun y12 =>
      some y12))

theorem c71 {a0 : ((Bool × (List Int)) × (Bool × (List Int))) × ((Bool × (List Int)) × (Bool × (List Int)))} {a1 : ((Bool × (List Int)) × (Bool × (List Int))) × ((Bool × (List Int)) × (Bool × (List Int)))} {a2 : ((Bool × (List Int)) × (Bool × (List Int))) × ((Bool × (List Int)) × (Bool × (List Int)))} {r : ((Bool × (List Int)) × (Bool × (List Int)))} (h : F71 a0 a1 a2 = some r) : CallPure Pg 71 [(.d t103 a0), (.d t103 a1), (.d t103 a2)] (.d t99 r) := by
  refine callPureN hX c_71 51 [.cell 6 100] [100] Go.Proofs.Try.func71 (by kernel_rfl) (by kernel_rfl) (by kernel_rfl) (Nat.le_of_ble_eq_true rfl) rfl rfl ?_
  show Run Pg 51 c_71 ⟨[(0, (.d t103 a0)), (1, (.d t103 a1)), (2, (.d t103 a2))], []⟩ (fin71 r)
  unfold F71 at h
  refine Run.regN hX [] 100 [3, 4, 5, 6] [100, 101, 102, 103] ⟨[(3, (.ptr 100 0)), (4, (.ptr 101 0)), (5, (.ptr 102 0)), (6, (.ptr 103 0))], [(100, (.box (.vcons (.d t103 a0) .vnil))), (101, (.box (.vcons (.d t103 a1) .vnil))), (102, (.box (.vcons (.d t103 a2) .vnil))), (103, (.box (.vcons (.d t99 ((false, ([] : List Int)), (false, ([] : List Int)))) .vnil)))]⟩ [] (by kernel_rfl) (by kernel_rfl) trivial ?_
  obtain ⟨y1, h_y1, h⟩ := bnd_elim h
  obtain ⟨y2, h_y2, h⟩ := bnd_elim h
  refine Run.regN hX [(2, .call (.d t103 y1)), (5, .call (.d t103 y2))] 200 [4, 5, 6, 7, 8] [101, 102, 103, 206, 207] ⟨[(4, (.ptr 101 0)), (5, (.ptr 102 0)), (6, (.ptr 103 0)), (7, (.ptr 206 0)), (8, (.ptr 207 0))], [(101, (.box (.vcons (.d t103 a1) .vnil))), (102, (.box (.vcons (.d t103 a2) .vnil))), (103, (.box (.vcons (.d t99 ((false, ([] : List Int)), (false, ([] : List Int)))) .vnil))), (206, (.box (.vcons (.d t103 y1) .vnil))), (207, (.box (.vcons (.d t103 y2) .vnil)))]⟩ [CallPure Pg 82 [(.d t103 a0), (.d t103 a1)] (.d t103 y1), CallPure Pg 82 [(.d t103 a0), (.d t103 a2)] (.d t103 y2)] (by kernel_rfl) (by kernel_rfl) ⟨(c82 h_y1), (c82 h_y2), trivial⟩ ?_
  obtain ⟨y3, h_y3, h⟩ := bnd_elim h
  obtain ⟨y4, h_y4, h⟩ := bnd_elim h
  refine Run.regN hX [(2, .call (.d t99 y3)), (5, .call (.d t99 y4))] 300 [4, 5, 6, 7, 8, 9, 10] [101, 102, 103, 206, 207, 306, 307] ⟨[(4, (.ptr 101 0)), (5, (.ptr 102 0)), (6, (.ptr 103 0)), (7, (.ptr 206 0)), (8, (.ptr 207 0)), (9, (.ptr 306 0)), (10, (.ptr 307 0))], [(101, (.box (.vcons (.d t103 a1) .vnil))), (102, (.box (.vcons (.d t103 a2) .vnil))), (103, (.box (.vcons (.d t99 ((false, ([] : List Int)), (false, ([] : List Int)))) .vnil))), (206, (.box (.vcons (.d t103 y1) .vnil))), (207, (.box (.vcons (.d t103 y2) .vnil))), (306, (.box (.vcons (.d t99 y3) .vnil))), (307, (.box (.vcons (.d t99 y4) .vnil)))]⟩ [CallPure Pg 84 [(.d t103 y1), (.d t103 y1)] (.d t99 y3), CallPure Pg 84 [(.d t103 y1), (.d t103 y2)] (.d t99 y4)] (by kernel_rfl) (by kernel_rfl) ⟨(c84 h_y3), (c84 h_y4), trivial⟩ ?_
  refine Run.seqN (by kernel_rfl) ?_
  refine Run.blockN 0 (by kernel_rfl) ?_
  obtain ⟨y5, h_y5, h⟩ := bnd_elim h
  refine Run.regN hX [(1, .call (.d t2 y5))] 400 [4, 5, 6, 7, 8, 9, 10, 25] [101, 102, 103, 206, 207, 306, 307] ⟨[(4, (.ptr 101 0)), (5, (.ptr 102 0)), (6, (.ptr 103 0)), (7, (.ptr 206 0)), (8, (.ptr 207 0)), (9, (.ptr 306 0)), (10, (.ptr 307 0)), (25, (.d t4 (decide (y5 ≤ (0 : Int)))))], [(101, (.box (.vcons (.d t103 a1) .vnil))), (102, (.box (.vcons (.d t103 a2) .vnil))), (103, (.box (.vcons (.d t99 ((false, ([] : List Int)), (false, ([] : List Int)))) .vnil))), (206, (.box (.vcons (.d t103 y1) .vnil))), (207, (.box (.vcons (.d t103 y2) .vnil))), (306, (.box (.vcons (.d t99 y3) .vnil))), (307, (.box (.vcons (.d t99 y4) .vnil)))]⟩ [CallPure Pg 68 [(.d t99 y4)] (.d t2 y5)] (by kernel_rfl) (by kernel_rfl) ⟨(c68 h_y5), trivial⟩ ?_
  refine Run.condN (decide (y5 ≤ (0 : Int))) (by kernel_rfl) (fun hb => ?_) (fun hb => ?_)
  · replace h := bif_t h hb
    obtain ⟨y6, h_y6, h⟩ := bnd_elim h
    refine Run.regN hX [(2, .call (.d t99 y6))] 500 [6] [103] ⟨[(6, (.ptr 103 0))], [(103, (.box (.vcons (.d t99 y6) .vnil)))]⟩ [CallPure Pg 84 [(.d t103 y2), (.d t103 y2)] (.d t99 y6)] (by kernel_rfl) (by kernel_rfl) ⟨(c84 h_y6), trivial⟩ ?_
    refine Run.retN (by kernel_rfl) ?_
    replace h := Option.some.inj h
    subst h
    exact ⟨[(.d t99 y6)], by kernel_rfl, by kernel_rfl⟩
  · replace h := bif_f h hb
    obtain ⟨y7, h_y7, h⟩ := bnd_elim h
    refine Run.regN hX [(2, .call (.d t2 y7))] 600 [4, 5, 6, 7, 8, 9, 32] [101, 102, 103, 206, 207, 306] ⟨[(4, (.ptr 101 0)), (5, (.ptr 102 0)), (6, (.ptr 103 0)), (7, (.ptr 206 0)), (8, (.ptr 207 0)), (9, (.ptr 306 0)), (32, (.d t4 (decide ((0 : Int) ≤ y7))))], [(101, (.box (.vcons (.d t103 a1) .vnil))), (102, (.box (.vcons (.d t103 a2) .vnil))), (103, (.box (.vcons (.d t99 ((false, ([] : List Int)), (false, ([] : List Int)))) .vnil))), (206, (.box (.vcons (.d t103 y1) .vnil))), (207, (.box (.vcons (.d t103 y2) .vnil))), (306, (.box (.vcons (.d t99 y3) .vnil)))]⟩ [CallPure Pg 61 [(.d t99 y4), (.d t99 y3)] (.d t2 y7)] (by kernel_rfl) (by kernel_rfl) ⟨(c61 h_y7), trivial⟩ ?_
    refine Run.condN (decide ((0 : Int) ≤ y7)) (by kernel_rfl) (fun hb => ?_) (fun hb => ?_)
    · replace h := bif_t h hb
      obtain ⟨y8, h_y8, h⟩ := bnd_elim h
      refine Run.regN hX [(2, .call (.d t103 y8))] 700 [6, 11] [103, 703] ⟨[(6, (.ptr 103 0)), (11, (.ptr 703 0))], [(103, (.box (.vcons (.d t99 ((false, ([] : List Int)), (false, ([] : List Int)))) .vnil))), (703, (.box (.vcons (.d t103 y8) .vnil)))]⟩ [CallPure Pg 82 [(.d t103 a1), (.d t103 a2)] (.d t103 y8)] (by kernel_rfl) (by kernel_rfl) ⟨(c82 h_y8), trivial⟩ ?_
      obtain ⟨y9, h_y9, h⟩ := bnd_elim h
      refine Run.regN hX [(2, .call (.d t99 y9))] 800 [6] [103] ⟨[(6, (.ptr 103 0))], [(103, (.box (.vcons (.d t99 y9) .vnil)))]⟩ [CallPure Pg 84 [(.d t103 y8), (.d t103 y8)] (.d t99 y9)] (by kernel_rfl) (by kernel_rfl) ⟨(c84 h_y9), trivial⟩ ?_
      refine Run.retN (by kernel_rfl) ?_
      replace h := Option.some.inj h
      subst h
      exact ⟨[(.d t99 y9)], by kernel_rfl, by kernel_rfl⟩
    · replace h := bif_f h hb
      refine Run.skipN (by kernel_rfl) ?_
      show Run Pg 51 _ _ _
      obtain ⟨y10, h_y10, h⟩ := bnd_elim h
      refine Run.regN hX [(2, .call (.d t99 y10))] 900 [6, 9, 12] [103, 306, 903] ⟨[(6, (.ptr 103 0)), (9, (.ptr 306 0)), (12, (.ptr 903 0))], [(103, (.box (.vcons (.d t99 ((false, ([] : List Int)), (false, ([] : List Int)))) .vnil))), (306, (.box (.vcons (.d t99 y3) .vnil))), (903, (.box (.vcons (.d t99 y10) .vnil)))]⟩ [CallPure Pg 83 [(.d t103 y1), (.d t103 y2)] (.d t99 y10)] (by kernel_rfl) (by kernel_rfl) ⟨(c83 h_y10), trivial⟩ ?_
      obtain ⟨y11, h_y11, h⟩ := bnd_elim h
      obtain ⟨y12, h_y12, h⟩ := bnd_elim h
      refine Run.regN hX [(2, .call (.d t99 y11)), (4, .call (.d t99 y12))] 1000 [6] [103] ⟨[(6, (.ptr 103 0))], [(103, (.box (.vcons (.d t99 y12) .vnil)))]⟩ [CallPure Pg 86 [(.d t99 y10), (.d t99 y10)] (.d t99 y11), CallPure Pg 85 [(.d t99 y11), (.d t99 y3)] (.d t99 y12)] (by kernel_rfl) (by kernel_rfl) ⟨(c86 h_y11), (c85 h_y12), trivial⟩ ?_
      refine Run.retN (by kernel_rfl) ?_
      replace h := Option.some.inj h
      subst h
      exact ⟨[(.d t99 y12)], by kernel_rfl, by kernel_rfl⟩

/-! ## f62 -/

noncomputable def c_62 : Code := body0 Go.Proofs.Try.f62

def fin62 (r : ((Bool × (List Int)) × (Bool × (List Int)))) : Ex → St → Prop := endK X0 [.cell 8 100] [100] (.d t99 r)

def f62_c1_post (x22 : List ((Bool × (List Int)) × (Bool × (List Int)))) (x23 : Int) (x24 : Int) (x25 : Bool) (x26 : (Bool × (List Int)) × (Bool × (List Int))) (x27 : (Bool × (List Int)) × (Bool × (List Int))) (x28 : (Bool × (List Int)) × (Bool × (List Int))) : (((Bool × (List Int)) × (Bool × (List Int)))) → Ex → St → Prop
  | o, x, s => x = .nrm ∧ s = ⟨[(8, (.ptr 104 0)), (9, (.ptr 404 0)), (34, (.d t118 x22)), (35, (.d t2 x23)), (36, (.d t2 x24))], [(104, (.box (.vcons (.d t99 x26) .vnil))), (404, (.box (.vcons (.d t99 o) .vnil)))]⟩

def f62_c1 (x25 : Bool) (x27 : (Bool × (List Int)) × (Bool × (List Int))) (x28 : (Bool × (List Int)) × (Bool × (List Int))) : Option (((Bool × (List Int)) × (Bool × (List Int)))) :=
  (bif x25 then
    some x28
  else
    some x27)

theorem f62_c1_ok (x22 : List ((Bool × (List Int)) × (Bool × (List Int)))) (x23 : Int) (x24 : Int) (x25 : Bool) (x26 : (Bool × (List Int)) × (Bool × (List Int))) (x27 : (Bool × (List Int)) × (Bool × (List Int))) (x28 : (Bool × (List Int)) × (Bool × (List Int))) {out : (((Bool × (List Int)) × (Bool × (List Int))))} (h : f62_c1 x25 x27 x28 = some out) : Run Pg 47 (sq2 (sq2 (bk1 (sq1 (sq2 (sq2 (lp1 (bk1 (sq2 (sq1 (sq2 (sq2 (sq2 c_62))))))))))))) ⟨[(8, (.ptr 104 0)), (9, (.ptr 404 0)), (11, (.ptr 702 0)), (34, (.d t118 x22)), (35, (.d t2 x23)), (36, (.d t2 x24)), (43, (.d t4 x25))], [(104, (.box (.vcons (.d t99 x26) .vnil))), (404, (.box (.vcons (.d t99 x27) .vnil))), (702, (.box (.vcons (.d t99 x28) .vnil)))]⟩ (f62_c1_post x22 x23 x24 x25 x26 x27 x28 out) := by
  unfold f62_c1 at h
  refine Run.condN x25 (by kernel_rfl) (fun hb => ?_) (fun hb => ?_)
  · replace h := bif_t h hb
    refine Run.regE hX [] 900 [8, 9, 34, 35, 36] [104, 404] ⟨[(8, (.ptr 104 0)), (9, (.ptr 404 0)), (34, (.d t118 x22)), (35, (.d t2 x23)), (36, (.d t2 x24))], [(104, (.box (.vcons (.d t99 x26) .vnil))), (404, (.box (.vcons (.d t99 x28) .vnil)))]⟩ [] (by kernel_rfl) trivial ?_
    replace h := Option.some.inj h
    subst h
    exact ⟨rfl, by kernel_rfl⟩
  · replace h := bif_f h hb
    refine Run.keep (s' := ⟨[(8, (.ptr 104 0)), (9, (.ptr 404 0)), (34, (.d t118 x22)), (35, (.d t2 x23)), (36, (.d t2 x24))], [(104, (.box (.vcons (.d t99 x26) .vnil))), (404, (.box (.vcons (.d t99 x27) .vnil)))]⟩) [8, 9, 34, 35, 36] [104, 404] (by kernel_rfl) ?_
    refine Run.skipN (by kernel_rfl) ?_
    replace h := Option.some.inj h
    subst h
    exact ⟨rfl, by kernel_rfl⟩

def f62_l0_post (x7 : List ((Bool × (List Int)) × (Bool × (List Int)))) (x8 : Int) (x10 : (Bool × (List Int)) × (Bool × (List Int))) : (((Bool × (List Int)) × (Bool × (List Int)))) → Ex → St → Prop
  | o, x, s => x = .out 0 ∧ s = ⟨[(8, (.ptr 104 0)), (9, (.ptr 404 0))], [(104, (.box (.vcons (.d t99 x10) .vnil))), (404, (.box (.vcons (.d t99 o) .vnil)))]⟩

def f62_l0_b (x7 : List ((Bool × (List Int)) × (Bool × (List Int)))) (x8 : Int) (again : Int × ((Bool × (List Int)) × (Bool × (List Int))) → Option (((Bool × (List Int)) × (Bool × (List Int))))) : Int × ((Bool × (List Int)) × (Bool × (List Int))) → Option (((Bool × (List Int)) × (Bool × (List Int))))
  | (x9, x11) =>
    (bif (decide (x9 < x8)) then
      gd (0 ≤ x9) <|
      gd (x9 < ((List.length x7 : Nat) : Int)) <|
      (F61 (List.getD x7 (toN x9) ((false, ([] : List Int)), (false, ([] : List Int)))) x11).bind fun y21 =>
      ((f62_c1 (decide (y21 < (0 : Int))) x11 (List.getD x7 (toN x9) ((false, ([] : List Int)), (false, ([] : List Int))))).bind fun o29 =>
        again ((wrapI .i64 (x9 + (1 : Int))), o29))
    else
      some x11)

def f62_l0 (x7 : List ((Bool × (List Int)) × (Bool × (List Int)))) (x8 : Int) : Nat → Int × ((Bool × (List Int)) × (Bool × (List Int))) → Option (((Bool × (List Int)) × (Bool × (List Int)))) := loopF (f62_l0_b x7 x8)

theorem f62_l0_ok (x7 : List ((Bool × (List Int)) × (Bool × (List Int)))) (x8 : Int) (x10 : (Bool × (List Int)) × (Bool × (List Int))) (k : Nat) (x9 : Int) (x11 : (Bool × (List Int)) × (Bool × (List Int))) {out : (((Bool × (List Int)) × (Bool × (List Int))))} (h : f62_l0 x7 x8 k (x9, x11) = some out) : Run Pg 47 (bk1 (sq2 (sq1 (sq2 (sq2 (sq2 c_62)))))) ⟨[(8, (.ptr 104 0)), (9, (.ptr 404 0)), (34, (.d t118 x7)), (35, (.d t2 x8)), (36, (.d t2 x9))], [(104, (.box (.vcons (.d t99 x10) .vnil))), (404, (.box (.vcons (.d t99 x11) .vnil)))]⟩ (f62_l0_post x7 x8 x10 out) := by
  refine Run.loopN (by kernel_rfl) (fun m s => ∃ x9 x11, s = ⟨[(8, (.ptr 104 0)), (9, (.ptr 404 0)), (34, (.d t118 x7)), (35, (.d t2 x8)), (36, (.d t2 x9))], [(104, (.box (.vcons (.d t99 x10) .vnil))), (404, (.box (.vcons (.d t99 x11) .vnil)))]⟩ ∧ f62_l0 x7 x8 m (x9, x11) = some out) ?_ k ⟨x9, x11,  rfl, h⟩
  rintro m s ⟨x9, x11,  rfl, h⟩
  cases m with
  | zero => cases h
  | succ m =>
  replace h : f62_l0_b x7 x8 (f62_l0 x7 x8 m) (x9, x11) = some out := h
  unfold f62_l0_b at h
  refine Run.regN hX [] 600 [8, 9, 34, 35, 36, 37] [104, 404] ⟨[(8, (.ptr 104 0)), (9, (.ptr 404 0)), (34, (.d t118 x7)), (35, (.d t2 x8)), (36, (.d t2 x9)), (37, (.d t4 (decide (x9 < x8))))], [(104, (.box (.vcons (.d t99 x10) .vnil))), (404, (.box (.vcons (.d t99 x11) .vnil)))]⟩ [] (by kernel_rfl) (by kernel_rfl) trivial ?_
  refine Run.seqN (by kernel_rfl) ?_
  refine Run.condN (decide (x9 < x8)) (by kernel_rfl) (fun hb => ?_) (fun hb => ?_)
  · replace h := bif_t h hb
    refine Run.skipN (by kernel_rfl) ?_
    show Run Pg 47 _ _ _
    refine Run.seqN (by kernel_rfl) ?_
    refine Run.blockN 1 (by kernel_rfl) ?_
    obtain ⟨g_0, h⟩ := gd_elim h
    obtain ⟨g_1, h⟩ := gd_elim h
    refine Run.regN hX [] 700 [8, 9, 11, 34, 35, 36] [104, 404, 702] ⟨[(8, (.ptr 104 0)), (9, (.ptr 404 0)), (11, (.ptr 702 0)), (34, (.d t118 x7)), (35, (.d t2 x8)), (36, (.d t2 x9))], [(104, (.box (.vcons (.d t99 x10) .vnil))), (404, (.box (.vcons (.d t99 x11) .vnil))), (702, (.box (.vcons (.d t99 (List.getD x7 (toN x9) ((false, ([] : List Int)), (false, ([] : List Int))))) .vnil)))]⟩ [(0 ≤ x9), (x9 < ((List.length x7 : Nat) : Int))] (by kernel_rfl) (by kernel_rfl) ⟨g_0, g_1, trivial⟩ ?_
    obtain ⟨y21, h_y21, h⟩ := bnd_elim h
    refine Run.regN hX [(2, .call (.d t2 y21))] 800 [8, 9, 11, 34, 35, 36, 43] [104, 404, 702] ⟨[(8, (.ptr 104 0)), (9, (.ptr 404 0)), (11, (.ptr 702 0)), (34, (.d t118 x7)), (35, (.d t2 x8)), (36, (.d t2 x9)), (43, (.d t4 (decide (y21 < (0 : Int)))))], [(104, (.box (.vcons (.d t99 x10) .vnil))), (404, (.box (.vcons (.d t99 x11) .vnil))), (702, (.box (.vcons (.d t99 (List.getD x7 (toN x9) ((false, ([] : List Int)), (false, ([] : List Int))))) .vnil)))]⟩ [CallPure Pg 61 [(.d t99 (List.getD x7 (toN x9) ((false, ([] : List Int)), (false, ([] : List Int))))), (.d t99 x11)] (.d t2 y21)] (by kernel_rfl) (by kernel_rfl) ⟨(c61 h_y21), trivial⟩ ?_
    obtain ⟨o29, h_o29, h⟩ := bnd_elim h
    refine Run.mono (f62_c1_ok x7 x8 x9 (decide (y21 < (0 : Int))) x10 x11 (List.getD x7 (toN x9) ((false, ([] : List Int)), (false, ([] : List Int)))) h_o29) ?_
    rintro x s ⟨hx, hs⟩
    subst hx
    subst hs
    show Run Pg 47 _ _ _
    refine Run.regE hX [] 1000 [8, 9, 34, 35, 36] [104, 404] ⟨[(8, (.ptr 104 0)), (9, (.ptr 404 0)), (34, (.d t118 x7)), (35, (.d t2 x8)), (36, (.d t2 (wrapI .i64 (x9 + (1 : Int)))))], [(104, (.box (.vcons (.d t99 x10) .vnil))), (404, (.box (.vcons (.d t99 o29) .vnil)))]⟩ [] (by kernel_rfl) trivial ?_
    exact ⟨m, Nat.lt_succ_self m, _, _, rfl, h⟩
  · replace h := bif_f h hb
    refine Run.keep (s' := ⟨[(8, (.ptr 104 0)), (9, (.ptr 404 0))], [(104, (.box (.vcons (.d t99 x10) .vnil))), (404, (.box (.vcons (.d t99 x11) .vnil)))]⟩) [8, 9] [104, 404] (by kernel_rfl) ?_
    refine Run.exitN 0 (by kernel_rfl) ?_
    replace h := Option.some.inj h
    subst h
    exact ⟨rfl, by kernel_rfl⟩

def F62 (a0 : ((Bool × (List Int)) × (Bool × (List Int))) × ((Bool × (List Int)) × (Bool × (List Int)))) (a1 : ((Bool × (List Int)) × (Bool × (List Int))) × ((Bool × (List Int)) × (Bool × (List Int)))) (a2 : ((Bool × (List Int)) × (Bool × (List Int))) × ((Bool × (List Int)) × (Bool × (List Int)))) (a3 : ((Bool × (List Int)) × (Bool × (List Int))) × ((Bool × (List Int)) × (Bool × (List Int)))) : Option (((Bool × (List Int)) × (Bool × (List Int)))) :=
  (F70 a0 a1 a2 a3).bind fun y1 =>
  (bif y1 then
    (F58 (0 : Int)).bind fun y2 =>
    some y2
  else
    (F71 a0 a1 a2).bind fun y3 =>
    (F71 a0 a1 a3).bind fun y4 =>
    (F71 a2 a3 a0).bind fun y5 =>
    (F71 a2 a3 a1).bind fun y6 =>
    ((f62_l0 ([y4, y5, y6] : List ((Bool × (List Int)) × (Bool × (List Int)))) (ofN (List.length ([y4, y5, y6] : List ((Bool × (List Int)) × (Bool × (List Int)))))) (2 + List.length ([y4, y5, y6] : List ((Bool × (List Int)) × (Bool × (List Int))))) ((0 : Int), y3)).bind fun o30 =>
      some o30))

theorem c62 {a0 : ((Bool × (List Int)) × (Bool × (List Int))) × ((Bool × (List Int)) × (Bool × (List Int)))} {a1 : ((Bool × (List Int)) × (Bool × (List Int))) × ((Bool × (List Int)) × (Bool × (List Int)))} {a2 : ((Bool × (List Int)) × (Bool × (List Int))) × ((Bool × (List Int)) × (Bool × (List Int)))} {a3 : ((Bool × (List Int)) × (Bool × (List Int))) × ((Bool × (List Int)) × (Bool × (List Int)))} {r : ((Bool × (List Int)) × (Bool × (List Int)))} (h : F62 a0 a1 a2 a3 = some r) : CallPure Pg 62 [(.d t103 a0), (.d t103 a1), (.d t103 a2), (.d t103 a3)] (.d t99 r) := by
  refine callPureN hX c_62 47 [.cell 8 100] [100] Go.Proofs.Try.func62 (by kernel_rfl) (by kernel_rfl) (by kernel_rfl) (Nat.le_of_ble_eq_true rfl) rfl rfl ?_
  show Run Pg 47 c_62 ⟨[(0, (.d t103 a0)), (1, (.d t103 a1)), (2, (.d t103 a2)), (3, (.d t103 a3))], []⟩ (fin62 r)
  unfold F62 at h
  refine Run.regN hX [] 100 [4, 5, 6, 7, 8] [100, 101, 102, 103, 104] ⟨[(4, (.ptr 100 0)), (5, (.ptr 101 0)), (6, (.ptr 102 0)), (7, (.ptr 103 0)), (8, (.ptr 104 0))], [(100, (.box (.vcons (.d t103 a0) .vnil))), (101, (.box (.vcons (.d t103 a1) .vnil))), (102, (.box (.vcons (.d t103 a2) .vnil))), (103, (.box (.vcons (.d t103 a3) .vnil))), (104, (.box (.vcons (.d t99 ((false, ([] : List Int)), (false, ([] : List Int)))) .vnil)))]⟩ [] (by kernel_rfl) (by kernel_rfl) trivial ?_
  refine Run.seqN (by kernel_rfl) ?_
  obtain ⟨y1, h_y1, h⟩ := bnd_elim h
  refine Run.regN hX [(4, .call (.d t4 y1))] 200 [4, 5, 6, 7, 8, 16] [100, 101, 102, 103, 104] ⟨[(4, (.ptr 100 0)), (5, (.ptr 101 0)), (6, (.ptr 102 0)), (7, (.ptr 103 0)), (8, (.ptr 104 0)), (16, (.d t4 y1))], [(100, (.box (.vcons (.d t103 a0) .vnil))), (101, (.box (.vcons (.d t103 a1) .vnil))), (102, (.box (.vcons (.d t103 a2) .vnil))), (103, (.box (.vcons (.d t103 a3) .vnil))), (104, (.box (.vcons (.d t99 ((false, ([] : List Int)), (false, ([] : List Int)))) .vnil)))]⟩ [CallPure Pg 70 [(.d t103 a0), (.d t103 a1), (.d t103 a2), (.d t103 a3)] (.d t4 y1)] (by kernel_rfl) (by kernel_rfl) ⟨(c70 h_y1), trivial⟩ ?_
  refine Run.condN y1 (by kernel_rfl) (fun hb => ?_) (fun hb => ?_)
  · replace h := bif_t h hb
    obtain ⟨y2, h_y2, h⟩ := bnd_elim h
    refine Run.regN hX [(0, .call (.d t99 y2))] 300 [8] [104] ⟨[(8, (.ptr 104 0))], [(104, (.box (.vcons (.d t99 y2) .vnil)))]⟩ [CallPure Pg 58 [(.d t2 (0 : Int))] (.d t99 y2)] (by kernel_rfl) (by kernel_rfl) ⟨(c58 h_y2), trivial⟩ ?_
    refine Run.retN (by kernel_rfl) ?_
    replace h := Option.some.inj h
    subst h
    exact ⟨[(.d t99 y2)], by kernel_rfl, by kernel_rfl⟩
  · replace h := bif_f h hb
    refine Run.skipN (by kernel_rfl) ?_
    show Run Pg 47 _ _ _
    obtain ⟨y3, h_y3, h⟩ := bnd_elim h
    refine Run.regN hX [(3, .call (.d t99 y3))] 400 [4, 5, 6, 7, 8, 9] [100, 101, 102, 103, 104, 404] ⟨[(4, (.ptr 100 0)), (5, (.ptr 101 0)), (6, (.ptr 102 0)), (7, (.ptr 103 0)), (8, (.ptr 104 0)), (9, (.ptr 404 0))], [(100, (.box (.vcons (.d t103 a0) .vnil))), (101, (.box (.vcons (.d t103 a1) .vnil))), (102, (.box (.vcons (.d t103 a2) .vnil))), (103, (.box (.vcons (.d t103 a3) .vnil))), (104, (.box (.vcons (.d t99 ((false, ([] : List Int)), (false, ([] : List Int)))) .vnil))), (404, (.box (.vcons (.d t99 y3) .vnil)))]⟩ [CallPure Pg 71 [(.d t103 a0), (.d t103 a1), (.d t103 a2)] (.d t99 y3)] (by kernel_rfl) (by kernel_rfl) ⟨(c71 h_y3), trivial⟩ ?_
    refine Run.seqN (by kernel_rfl) ?_
    obtain ⟨y4, h_y4, h⟩ := bnd_elim h
    obtain ⟨y5, h_y5, h⟩ := bnd_elim h
    obtain ⟨y6, h_y6, h⟩ := bnd_elim h
    refine Run.regN hX [(3, .call (.d t99 y4)), (7, .call (.d t99 y5)), (11, .call (.d t99 y6))] 500 [8, 9, 34, 35, 36] [104, 404] ⟨[(8, (.ptr 104 0)), (9, (.ptr 404 0)), (34, (.d t118 ([y4, y5, y6] : List ((Bool × (List Int)) × (Bool × (List Int)))))), (35, (.d t2 (ofN (List.length ([y4, y5, y6] : List ((Bool × (List Int)) × (Bool × (List Int)))))))), (36, (.d t2 (0 : Int)))], [(104, (.box (.vcons (.d t99 ((false, ([] : List Int)), (false, ([] : List Int)))) .vnil))), (404, (.box (.vcons (.d t99 y3) .vnil)))]⟩ [CallPure Pg 71 [(.d t103 a0), (.d t103 a1), (.d t103 a3)] (.d t99 y4), CallPure Pg 71 [(.d t103 a2), (.d t103 a3), (.d t103 a0)] (.d t99 y5), CallPure Pg 71 [(.d t103 a2), (.d t103 a3), (.d t103 a1)] (.d t99 y6)] (by kernel_rfl) (by kernel_rfl) ⟨(c71 h_y4), (c71 h_y5), (c71 h_y6), trivial⟩ ?_
    refine Run.blockN 0 (by kernel_rfl) ?_
    obtain ⟨o30, h_o30, h⟩ := bnd_elim h
    refine Run.mono (f62_l0_ok ([y4, y5, y6] : List ((Bool × (List Int)) × (Bool × (List Int)))) (ofN (List.length ([y4, y5, y6] : List ((Bool × (List Int)) × (Bool × (List Int)))))) ((false, ([] : List Int)), (false, ([] : List Int))) _ (0 : Int) y3 h_o30) ?_
    rintro x s ⟨hx, hs⟩
    subst hx
    subst hs
    show Run Pg 47 _ _ _
    refine Run.regN hX [] 1100 [8] [104] ⟨[(8, (.ptr 104 0))], [(104, (.box (.vcons (.d t99 o30) .vnil)))]⟩ [] (by kernel_rfl) (by kernel_rfl) trivial ?_
    refine Run.retN (by kernel_rfl) ?_
    replace h := Option.some.inj h
    subst h
    exact ⟨[(.d t99 o30)], by kernel_rfl, by kernel_rfl⟩

/-! ## f53 -/

noncomputable def c_53 : Code := body0 Go.Proofs.Try.f53

def fin53 (r : Bool) : Ex → St → Prop := endK X0 [.tmp 8] [4] (.d t4 r)

def f53_l0_post (x11 : List (((Bool × (List Int)) × (Bool × (List Int))) × ((Bool × (List Int)) × (Bool × (List Int))))) (x12 : Int) (x14 : (Bool × (List Int)) × (Bool × (List Int))) (x15 : ((Bool × (List Int)) × (Bool × (List Int))) × ((Bool × (List Int)) × (Bool × (List Int)))) (x16 : ((Bool × (List Int)) × (Bool × (List Int))) × ((Bool × (List Int)) × (Bool × (List Int)))) : ((Unit) ⊕ (Bool)) → Ex → St → Prop
  | .inl o, x, s => x = .out 0 ∧ s = ⟨[], []⟩
  | .inr o, x, s => x = .ret ∧ fin53  o x s

def f53_l0_b (x11 : List (((Bool × (List Int)) × (Bool × (List Int))) × ((Bool × (List Int)) × (Bool × (List Int))))) (x12 : Int) (x14 : (Bool × (List Int)) × (Bool × (List Int))) (x15 : ((Bool × (List Int)) × (Bool × (List Int))) × ((Bool × (List Int)) × (Bool × (List Int)))) (x16 : ((Bool × (List Int)) × (Bool × (List Int))) × ((Bool × (List Int)) × (Bool × (List Int)))) (again : Int → Option ((Unit) ⊕ (Bool))) : Int → Option ((Unit) ⊕ (Bool))
  | x13 =>
    (bif (decide (x13 < x12)) then
      gd (0 ≤ x13) <|
      gd (x13 < ((List.length x11 : Nat) : Int)) <|
      gd (0 ≤ (Int.tmod (wrapI .i64 (x13 + (1 : Int))) (4 : Int))) <|
      gd ((Int.tmod (wrapI .i64 (x13 + (1 : Int))) (4 : Int)) < ((List.length x11 : Nat) : Int)) <|
      (F62 x15 x16 (List.getD x11 (toN x13) (((false, ([] : List Int)), (false, ([] : List Int))), ((false, ([] : List Int)), (false, ([] : List Int))))) (List.getD x11 (toN (Int.tmod (wrapI .i64 (x13 + (1 : Int))) (4 : Int))) (((false, ([] : List Int)), (false, ([] : List Int))), ((false, ([] : List Int)), (false, ([] : List Int)))))).bind fun y19 =>
      (F61 y19 x14).bind fun y20 =>
      (bif (decide (y20 < (0 : Int))) then
        some (.inr true)
      else
        again (wrapI .i64 (x13 + (1 : Int))))
    else
      some (.inl ()))

def f53_l0 (x11 : List (((Bool × (List Int)) × (Bool × (List Int))) × ((Bool × (List Int)) × (Bool × (List Int))))) (x12 : Int) (x14 : (Bool × (List Int)) × (Bool × (List Int))) (x15 : ((Bool × (List Int)) × (Bool × (List Int))) × ((Bool × (List Int)) × (Bool × (List Int)))) (x16 : ((Bool × (List Int)) × (Bool × (List Int))) × ((Bool × (List Int)) × (Bool × (List Int)))) : Nat → Int → Option ((Unit) ⊕ (Bool)) := loopF (f53_l0_b x11 x12 x14 x15 x16)

theorem f53_l0_ok (x11 : List (((Bool × (List Int)) × (Bool × (List Int))) × ((Bool × (List Int)) × (Bool × (List Int))))) (x12 : Int) (x14 : (Bool × (List Int)) × (Bool × (List Int))) (x15 : ((Bool × (List Int)) × (Bool × (List Int))) × ((Bool × (List Int)) × (Bool × (List Int)))) (x16 : ((Bool × (List Int)) × (Bool × (List Int))) × ((Bool × (List Int)) × (Bool × (List Int)))) (k : Nat) (x13 : Int) {out : ((Unit) ⊕ (Bool))} (h : f53_l0 x11 x12 x14 x15 x16 k x13 = some out) : Run Pg 82 (bk1 (sq2 (sq1 (sq2 (sq2 (sq2 (sq2 (sq2 (sq2 (sq2 c_53)))))))))) ⟨[(9, (.ptr 602 0)), (10, (.ptr 810 0)), (11, (.ptr 811 0)), (12, (.d t106 x11)), (61, (.d t106 x11)), (62, (.d t2 x12)), (63, (.d t2 x13))], [(602, (.box (.vcons (.d t99 x14) .vnil))), (810, (.box (.vcons (.d t103 x15) .vnil))), (811, (.box (.vcons (.d t103 x16) .vnil)))]⟩ (f53_l0_post x11 x12 x14 x15 x16 out) := by
  refine Run.loopN (by kernel_rfl) (fun m s => ∃ x13, s = ⟨[(9, (.ptr 602 0)), (10, (.ptr 810 0)), (11, (.ptr 811 0)), (12, (.d t106 x11)), (61, (.d t106 x11)), (62, (.d t2 x12)), (63, (.d t2 x13))], [(602, (.box (.vcons (.d t99 x14) .vnil))), (810, (.box (.vcons (.d t103 x15) .vnil))), (811, (.box (.vcons (.d t103 x16) .vnil)))]⟩ ∧ f53_l0 x11 x12 x14 x15 x16 m x13 = some out) ?_ k ⟨x13,  rfl, h⟩
  rintro m s ⟨x13,  rfl, h⟩
  cases m with
  | zero => cases h
  | succ m =>
  replace h : f53_l0_b x11 x12 x14 x15 x16 (f53_l0 x11 x12 x14 x15 x16 m) x13 = some out := h
  unfold f53_l0_b at h
  refine Run.regN hX [] 1100 [9, 10, 11, 12, 61, 62, 63, 64] [602, 810, 811] ⟨[(9, (.ptr 602 0)), (10, (.ptr 810 0)), (11, (.ptr 811 0)), (12, (.d t106 x11)), (61, (.d t106 x11)), (62, (.d t2 x12)), (63, (.d t2 x13)), (64, (.d t4 (decide (x13 < x12))))], [(602, (.box (.vcons (.d t99 x14) .vnil))), (810, (.box (.vcons (.d t103 x15) .vnil))), (811, (.box (.vcons (.d t103 x16) .vnil)))]⟩ [] (by kernel_rfl) (by kernel_rfl) trivial ?_
  refine Run.seqN (by kernel_rfl) ?_
  refine Run.condN (decide (x13 < x12)) (by kernel_rfl) (fun hb => ?_) (fun hb => ?_)
  · replace h := bif_t h hb
    refine Run.skipN (by kernel_rfl) ?_
    show Run Pg 82 _ _ _
    refine Run.seqN (by kernel_rfl) ?_
    refine Run.blockN 1 (by kernel_rfl) ?_
    obtain ⟨g_0, h⟩ := gd_elim h
    obtain ⟨g_1, h⟩ := gd_elim h
    refine Run.regN hX [] 1200 [9, 10, 11, 12, 13, 14, 61, 62, 63] [602, 810, 811, 1203] ⟨[(9, (.ptr 602 0)), (10, (.ptr 810 0)), (11, (.ptr 811 0)), (12, (.d t106 x11)), (13, (.d t2 x13)), (14, (.ptr 1203 0)), (61, (.d t106 x11)), (62, (.d t2 x12)), (63, (.d t2 x13))], [(602, (.box (.vcons (.d t99 x14) .vnil))), (810, (.box (.vcons (.d t103 x15) .vnil))), (811, (.box (.vcons (.d t103 x16) .vnil))), (1203, (.box (.vcons (.d t103 (List.getD x11 (toN x13) (((false, ([] : List Int)), (false, ([] : List Int))), ((false, ([] : List Int)), (false, ([] : List Int)))))) .vnil)))]⟩ [(0 ≤ x13), (x13 < ((List.length x11 : Nat) : Int))] (by kernel_rfl) (by kernel_rfl) ⟨g_0, g_1, trivial⟩ ?_
    obtain ⟨g_1, h⟩ := gd_elim h
    obtain ⟨g_2, h⟩ := gd_elim h
    obtain ⟨y19, h_y19, h⟩ := bnd_elim h
    obtain ⟨y20, h_y20, h⟩ := bnd_elim h
    refine Run.regN hX [(9, .call (.d t99 y19)), (11, .call (.d t2 y20))] 1300 [9, 10, 11, 12, 61, 62, 63, 80] [602, 810, 811] ⟨[(9, (.ptr 602 0)), (10, (.ptr 810 0)), (11, (.ptr 811 0)), (12, (.d t106 x11)), (61, (.d t106 x11)), (62, (.d t2 x12)), (63, (.d t2 x13)), (80, (.d t4 (decide (y20 < (0 : Int)))))], [(602, (.box (.vcons (.d t99 x14) .vnil))), (810, (.box (.vcons (.d t103 x15) .vnil))), (811, (.box (.vcons (.d t103 x16) .vnil)))]⟩ [((4 : Int) ≠ 0), (0 ≤ (Int.tmod (wrapI .i64 (x13 + (1 : Int))) (4 : Int))), ((Int.tmod (wrapI .i64 (x13 + (1 : Int))) (4 : Int)) < ((List.length x11 : Nat) : Int)), CallPure Pg 62 [(.d t103 x15), (.d t103 x16), (.d t103 (List.getD x11 (toN x13) (((false, ([] : List Int)), (false, ([] : List Int))), ((false, ([] : List Int)), (false, ([] : List Int)))))), (.d t103 (List.getD x11 (toN (Int.tmod (wrapI .i64 (x13 + (1 : Int))) (4 : Int))) (((false, ([] : List Int)), (false, ([] : List Int))), ((false, ([] : List Int)), (false, ([] : List Int))))))] (.d t99 y19), CallPure Pg 61 [(.d t99 y19), (.d t99 x14)] (.d t2 y20)] (by kernel_rfl) (by kernel_rfl) ⟨(by decide), g_1, g_2, (c62 h_y19), (c61 h_y20), trivial⟩ ?_
    refine Run.condN (decide (y20 < (0 : Int))) (by kernel_rfl) (fun hb => ?_) (fun hb => ?_)
    · replace h := bif_t h hb
      refine Run.regN hX [] 1400 [8] [] ⟨[(8, (.d t4 true))], []⟩ [] (by kernel_rfl) (by kernel_rfl) trivial ?_
      refine Run.retN (by kernel_rfl) ?_
      replace h := Option.some.inj h
      subst h
      exact ⟨rfl, [(.d t4 true)], by kernel_rfl, by kernel_rfl⟩
    · replace h := bif_f h hb
      refine Run.skipN (by kernel_rfl) ?_
      show Run Pg 82 _ _ _
      refine Run.regE hX [] 1500 [9, 10, 11, 12, 61, 62, 63] [602, 810, 811] ⟨[(9, (.ptr 602 0)), (10, (.ptr 810 0)), (11, (.ptr 811 0)), (12, (.d t106 x11)), (61, (.d t106 x11)), (62, (.d t2 x12)), (63, (.d t2 (wrapI .i64 (x13 + (1 : Int)))))], [(602, (.box (.vcons (.d t99 x14) .vnil))), (810, (.box (.vcons (.d t103 x15) .vnil))), (811, (.box (.vcons (.d t103 x16) .vnil)))]⟩ [] (by kernel_rfl) trivial ?_
      exact ⟨m, Nat.lt_succ_self m, _, rfl, h⟩
  · replace h := bif_f h hb
    refine Run.keep (s' := ⟨[], []⟩) [] [] (by kernel_rfl) ?_
    refine Run.exitN 0 (by kernel_rfl) ?_
    replace h := Option.some.inj h
    subst h
    exact ⟨rfl, by kernel_rfl⟩

def F53 (a0 : Int × Int × Int × Int × Int) (a1 : Int × Int) (a2 : Int × Int) (a3 : Int) : Option (Bool) :=
  (bif (decide (a3 ≤ (0 : Int))) then
    some false
  else
    (F57 a0 a1).bind fun y1 =>
    (bif y1 then
      some true
    else
      (F57 a0 a2).bind fun y2 =>
      (bif y2 then
        some true
      else
        (F58 a3).bind fun y3 =>
        (F59 y3 y3).bind fun y4 =>
        (F60 a1.1 a1.2).bind fun y5 =>
        (F60 a2.1 a2.2).bind fun y6 =>
        (F60 a0.1 a0.2.1).bind fun y7 =>
        (F60 a0.2.2.1 a0.2.1).bind fun y8 =>
        (F60 a0.2.2.1 a0.2.2.2.1).bind fun y9 =>
        (F60 a0.1 a0.2.2.2.1).bind fun y10 =>
        ((f53_l0 ([y7, y8, y9, y10] : List (((Bool × (List Int)) × (Bool × (List Int))) × ((Bool × (List Int)) × (Bool × (List Int))))) (ofN (List.length ([y7, y8, y9, y10] : List (((Bool × (List Int)) × (Bool × (List Int))) × ((Bool × (List Int)) × (Bool × (List Int))))))) y4 y5 y6 (2 + List.length ([y7, y8, y9, y10] : List (((Bool × (List Int)) × (Bool × (List Int))) × ((Bool × (List Int)) × (Bool × (List Int)))))) (0 : Int)).bind fun o21 => match o21 with
          | .inl o22 =>
              some false
          | .inr o23 =>
              some o23))))

theorem c53 {a0 : Int × Int × Int × Int × Int} {a1 : Int × Int} {a2 : Int × Int} {a3 : Int} {r : Bool} (h : F53 a0 a1 a2 a3 = some r) : CallPure Pg 53 [(.d t55 a0), (.d t28 a1), (.d t28 a2), (.d t2 a3)] (.d t4 r) := by
  refine callPureN hX c_53 82 [.tmp 8] [4] Go.Proofs.Try.func53 (by kernel_rfl) (by kernel_rfl) (by kernel_rfl) (Nat.le_of_ble_eq_true rfl) rfl rfl ?_
  show Run Pg 82 c_53 ⟨[(0, (.d t55 a0)), (1, (.d t28 a1)), (2, (.d t28 a2)), (3, (.d t2 a3))], []⟩ (fin53 r)
  unfold F53 at h
  refine Run.regN hX [] 100 [3, 4, 5, 6] [100, 101, 102] ⟨[(3, (.d t2 a3)), (4, (.ptr 100 0)), (5, (.ptr 101 0)), (6, (.ptr 102 0))], [(100, (.box (.vcons (.d t55 a0) .vnil))), (101, (.box (.vcons (.d t28 a1) .vnil))), (102, (.box (.vcons (.d t28 a2) .vnil)))]⟩ [] (by kernel_rfl) (by kernel_rfl) trivial ?_
  refine Run.seqN (by kernel_rfl) ?_
  refine Run.regN hX [] 200 [3, 4, 5, 6, 16] [100, 101, 102] ⟨[(3, (.d t2 a3)), (4, (.ptr 100 0)), (5, (.ptr 101 0)), (6, (.ptr 102 0)), (16, (.d t4 (decide (a3 ≤ (0 : Int)))))], [(100, (.box (.vcons (.d t55 a0) .vnil))), (101, (.box (.vcons (.d t28 a1) .vnil))), (102, (.box (.vcons (.d t28 a2) .vnil)))]⟩ [] (by kernel_rfl) (by kernel_rfl) trivial ?_
  refine Run.condN (decide (a3 ≤ (0 : Int))) (by kernel_rfl) (fun hb => ?_) (fun hb => ?_)
  · replace h := bif_t h hb
    refine Run.regN hX [] 300 [8] [] ⟨[(8, (.d t4 false))], []⟩ [] (by kernel_rfl) (by kernel_rfl) trivial ?_
    refine Run.retN (by kernel_rfl) ?_
    replace h := Option.some.inj h
    subst h
    exact ⟨[(.d t4 false)], by kernel_rfl, by kernel_rfl⟩
  · replace h := bif_f h hb
    refine Run.skipN (by kernel_rfl) ?_
    show Run Pg 82 _ _ _
    refine Run.seqN (by kernel_rfl) ?_
    obtain ⟨y1, h_y1, h⟩ := bnd_elim h
    rcases bif_elim h with ⟨hb1, h⟩ | ⟨hb1, h⟩
    · refine Run.regN hX [(2, .call (.d t4 y1)), (3, .b true)] 400 [3, 4, 5, 6, 24] [100, 101, 102] ⟨[(3, (.d t2 a3)), (4, (.ptr 100 0)), (5, (.ptr 101 0)), (6, (.ptr 102 0)), (24, (.d t4 true))], [(100, (.box (.vcons (.d t55 a0) .vnil))), (101, (.box (.vcons (.d t28 a1) .vnil))), (102, (.box (.vcons (.d t28 a2) .vnil)))]⟩ [CallPure Pg 57 [(.d t55 a0), (.d t28 a1)] (.d t4 y1), y1 = true] (by kernel_rfl) (by kernel_rfl) ⟨(c57 h_y1), hb1, trivial⟩ ?_
      refine Run.condN true (by kernel_rfl) (fun hb => ?_) (fun hb => (by cases hb))
      refine Run.regN hX [] 500 [8] [] ⟨[(8, (.d t4 true))], []⟩ [] (by kernel_rfl) (by kernel_rfl) trivial ?_
      refine Run.retN (by kernel_rfl) ?_
      replace h := Option.some.inj h
      subst h
      exact ⟨[(.d t4 true)], by kernel_rfl, by kernel_rfl⟩
    · obtain ⟨y2, h_y2, h⟩ := bnd_elim h
      refine Run.regN hX [(2, .call (.d t4 y1)), (3, .b false), (6, .call (.d t4 y2))] 400 [3, 4, 5, 6, 24] [100, 101, 102] ⟨[(3, (.d t2 a3)), (4, (.ptr 100 0)), (5, (.ptr 101 0)), (6, (.ptr 102 0)), (24, (.d t4 y2))], [(100, (.box (.vcons (.d t55 a0) .vnil))), (101, (.box (.vcons (.d t28 a1) .vnil))), (102, (.box (.vcons (.d t28 a2) .vnil)))]⟩ [CallPure Pg 57 [(.d t55 a0), (.d t28 a1)] (.d t4 y1), y1 = false, CallPure Pg 57 [(.d t55 a0), (.d t28 a2)] (.d t4 y2)] (by kernel_rfl) (by kernel_rfl) ⟨(c57 h_y1), hb1, (c57 h_y2), trivial⟩ ?_
      refine Run.condN y2 (by kernel_rfl) (fun hb => ?_) (fun hb => ?_)
      · replace h := bif_t h hb
        refine Run.regN hX [] 500 [8] [] ⟨[(8, (.d t4 true))], []⟩ [] (by kernel_rfl) (by kernel_rfl) trivial ?_
        refine Run.retN (by kernel_rfl) ?_
        replace h := Option.some.inj h
        subst h
        exact ⟨[(.d t4 true)], by kernel_rfl, by kernel_rfl⟩
      · replace h := bif_f h hb
        refine Run.skipN (by kernel_rfl) ?_
        show Run Pg 82 _ _ _
        obtain ⟨y3, h_y3, h⟩ := bnd_elim h
        refine Run.regN hX [(1, .call (.d t99 y3))] 600 [4, 5, 6, 9] [100, 101, 102, 602] ⟨[(4, (.ptr 100 0)), (5, (.ptr 101 0)), (6, (.ptr 102 0)), (9, (.ptr 602 0))], [(100, (.box (.vcons (.d t55 a0) .vnil))), (101, (.box (.vcons (.d t28 a1) .vnil))), (102, (.box (.vcons (.d t28 a2) .vnil))), (602, (.box (.vcons (.d t99 y3) .vnil)))]⟩ [CallPure Pg 58 [(.d t2 a3)] (.d t99 y3)] (by kernel_rfl) (by kernel_rfl) ⟨(c58 h_y3), trivial⟩ ?_
        obtain ⟨y4, h_y4, h⟩ := bnd_elim h
        refine Run.regN hX [(2, .call (.d t99 y4))] 700 [4, 5, 6, 9] [100, 101, 102, 602] ⟨[(4, (.ptr 100 0)), (5, (.ptr 101 0)), (6, (.ptr 102 0)), (9, (.ptr 602 0))], [(100, (.box (.vcons (.d t55 a0) .vnil))), (101, (.box (.vcons (.d t28 a1) .vnil))), (102, (.box (.vcons (.d t28 a2) .vnil))), (602, (.box (.vcons (.d t99 y4) .vnil)))]⟩ [CallPure Pg 59 [(.d t99 y3), (.d t99 y3)] (.d t99 y4)] (by kernel_rfl) (by kernel_rfl) ⟨(c59 h_y4), trivial⟩ ?_
        obtain ⟨y5, h_y5, h⟩ := bnd_elim h
        obtain ⟨y6, h_y6, h⟩ := bnd_elim h
        refine Run.regN hX [(4, .call (.d t103 y5)), (9, .call (.d t103 y6))] 800 [4, 9, 10, 11] [100, 602, 810, 811] ⟨[(4, (.ptr 100 0)), (9, (.ptr 602 0)), (10, (.ptr 810 0)), (11, (.ptr 811 0))], [(100, (.box (.vcons (.d t55 a0) .vnil))), (602, (.box (.vcons (.d t99 y4) .vnil))), (810, (.box (.vcons (.d t103 y5) .vnil))), (811, (.box (.vcons (.d t103 y6) .vnil)))]⟩ [CallPure Pg 60 [(.d t2 a1.1), (.d t2 a1.2)] (.d t103 y5), CallPure Pg 60 [(.d t2 a2.1), (.d t2 a2.2)] (.d t103 y6)] (by kernel_rfl) (by kernel_rfl) ⟨(c60 h_y5), (c60 h_y6), trivial⟩ ?_
        obtain ⟨y7, h_y7, h⟩ := bnd_elim h
        obtain ⟨y8, h_y8, h⟩ := bnd_elim h
        obtain ⟨y9, h_y9, h⟩ := bnd_elim h
        obtain ⟨y10, h_y10, h⟩ := bnd_elim h
        refine Run.regN hX [(4, .call (.d t103 y7)), (9, .call (.d t103 y8)), (14, .call (.d t103 y9)), (19, .call (.d t103 y10))] 900 [9, 10, 11, 12] [602, 810, 811] ⟨[(9, (.ptr 602 0)), (10, (.ptr 810 0)), (11, (.ptr 811 0)), (12, (.d t106 ([y7, y8, y9, y10] : List (((Bool × (List Int)) × (Bool × (List Int))) × ((Bool × (List Int)) × (Bool × (List Int)))))))], [(602, (.box (.vcons (.d t99 y4) .vnil))), (810, (.box (.vcons (.d t103 y5) .vnil))), (811, (.box (.vcons (.d t103 y6) .vnil)))]⟩ [CallPure Pg 60 [(.d t2 a0.1), (.d t2 a0.2.1)] (.d t103 y7), CallPure Pg 60 [(.d t2 a0.2.2.1), (.d t2 a0.2.1)] (.d t103 y8), CallPure Pg 60 [(.d t2 a0.2.2.1), (.d t2 a0.2.2.2.1)] (.d t103 y9), CallPure Pg 60 [(.d t2 a0.1), (.d t2 a0.2.2.2.1)] (.d t103 y10)] (by kernel_rfl) (by kernel_rfl) ⟨(c60 h_y7), (c60 h_y8), (c60 h_y9), (c60 h_y10), trivial⟩ ?_
        refine Run.seqN (by kernel_rfl) ?_
        refine Run.regN hX [] 1000 [9, 10, 11, 12, 61, 62, 63] [602, 810, 811] ⟨[(9, (.ptr 602 0)), (10, (.ptr 810 0)), (11, (.ptr 811 0)), (12, (.d t106 ([y7, y8, y9, y10] : List (((Bool × (List Int)) × (Bool × (List Int))) × ((Bool × (List Int)) × (Bool × (List Int))))))), (61, (.d t106 ([y7, y8, y9, y10] : List (((Bool × (List Int)) × (Bool × (List Int))) × ((Bool × (List Int)) × (Bool × (List Int))))))), (62, (.d t2 (ofN (List.length ([y7, y8, y9, y10] : List (((Bool × (List Int)) × (Bool × (List Int))) × ((Bool × (List Int)) × (Bool × (List Int))))))))), (63, (.d t2 (0 : Int)))], [(602, (.box (.vcons (.d t99 y4) .vnil))), (810, (.box (.vcons (.d t103 y5) .vnil))), (811, (.box (.vcons (.d t103 y6) .vnil)))]⟩ [] (by kernel_rfl) (by kernel_rfl) trivial ?_
        refine Run.blockN 0 (by kernel_rfl) ?_
        obtain ⟨o21, h_o21, h⟩ := bnd_elim h
        refine Run.mono (f53_l0_ok ([y7, y8, y9, y10] : List (((Bool × (List Int)) × (Bool × (List Int))) × ((Bool × (List Int)) × (Bool × (List Int))))) (ofN (List.length ([y7, y8, y9, y10] : List (((Bool × (List Int)) × (Bool × (List Int))) × ((Bool × (List Int)) × (Bool × (List Int))))))) y4 y5 y6 _ (0 : Int) h_o21) ?_
        rcases o21 with o22 | o23
        · rintro x s ⟨hx, hs⟩
          subst hx
          subst hs
          show Run Pg 82 _ _ _
          refine Run.regN hX [] 1600 [8] [] ⟨[(8, (.d t4 false))], []⟩ [] (by kernel_rfl) (by kernel_rfl) trivial ?_
          refine Run.retN (by kernel_rfl) ?_
          replace h := Option.some.inj h
          subst h
          exact ⟨[(.d t4 false)], by kernel_rfl, by kernel_rfl⟩
        · rintro x s ⟨hx, hr⟩
          subst hx
          replace h := Option.some.inj h
          subst h
          exact hr

/-! ## f29 -/

noncomputable def c_29 : Code := body0 Go.Proofs.Try.f29

def fin29 (r : Int × Bool) : Ex → St → Prop := endK X0 [.tmp 8, .tmp 9] [2, 4] (.tup (.vcons (.d t2 r.1) (.vcons (.d t4 r.2) .vnil)))

def f29_c1_post (x22 : Int) (x23 : Int) (x24 : Bool) (x25 : List (Int × Int × Int × Int × Int)) (x26 : Int) (x27 : Int) (x28 : Bool) (x29 : Int × Int) (x30 : Int × Int) (x31 : Int × Int × Int × Int × Int) : (Int × Bool) → Ex → St → Prop
  | o, x, s => x = .nrm ∧ s = ⟨[(3, (.d t2 x22)), (5, (.ptr 101 0)), (6, (.ptr 102 0)), (10, (.d t2 o.1)), (11, (.d t4 o.2)), (15, (.d t22 x25)), (16, (.d t2 x26)), (17, (.d t2 x27))], [(101, (.box (.vcons (.d t28 x29) .vnil))), (102, (.box (.vcons (.d t28 x30) .vnil)))]⟩

def f29_c1 (x23 : Int) (x24 : Bool) (x28 : Bool) (x31 : Int × Int × Int × Int × Int) : Option (Int × Bool) :=
  (bif x28 then
    some (x31.2.2.2.2, true)
  else
    some (x23, x24))

theorem f29_c1_ok (x22 : Int) (x23 : Int) (x24 : Bool) (x25 : List (Int × Int × Int × Int × Int)) (x26 : Int) (x27 : Int) (x28 : Bool) (x29 : Int × Int) (x30 : Int × Int) (x31 : Int × Int × Int × Int × Int) {out : (Int × Bool)} (h : f29_c1 x23 x24 x28 x31 = some out) : Run Pg 41 (sq2 (sq2 (bk1 (sq1 (sq2 (sq2 (lp1 (bk1 (sq2 (sq1 (sq2 (sq2 c_29)))))))))))) ⟨[(3, (.d t2 x22)), (5, (.ptr 101 0)), (6, (.ptr 102 0)), (10, (.d t2 x23)), (11, (.d t4 x24)), (13, (.ptr 502 0)), (15, (.d t22 x25)), (16, (.d t2 x26)), (17, (.d t2 x27)), (35, (.d t4 x28))], [(101, (.box (.vcons (.d t28 x29) .vnil))), (102, (.box (.vcons (.d t28 x30) .vnil))), (502, (.box (.vcons (.d t55 x31) .vnil)))]⟩ (f29_c1_post x22 x23 x24 x25 x26 x27 x28 x29 x30 x31 out) := by
  unfold f29_c1 at h
  refine Run.condN x28 (by kernel_rfl) (fun hb => ?_) (fun hb => ?_)
  · replace h := bif_t h hb
    refine Run.regE hX [] 700 [3, 5, 6, 10, 11, 15, 16, 17] [101, 102] ⟨[(3, (.d t2 x22)), (5, (.ptr 101 0)), (6, (.ptr 102 0)), (10, (.d t2 x31.2.2.2.2)), (11, (.d t4 true)), (15, (.d t22 x25)), (16, (.d t2 x26)), (17, (.d t2 x27))], [(101, (.box (.vcons (.d t28 x29) .vnil))), (102, (.box (.vcons (.d t28 x30) .vnil)))]⟩ [] (by kernel_rfl) trivial ?_
    replace h := Option.some.inj h
    subst h
    exact ⟨rfl, by kernel_rfl⟩
  · replace h := bif_f h hb
    refine Run.keep (s' := ⟨[(3, (.d t2 x22)), (5, (.ptr 101 0)), (6, (.ptr 102 0)), (10, (.d t2 x23)), (11, (.d t4 x24)), (15, (.d t22 x25)), (16, (.d t2 x26)), (17, (.d t2 x27))], [(101, (.box (.vcons (.d t28 x29) .vnil))), (102, (.box (.vcons (.d t28 x30) .vnil)))]⟩) [3, 5, 6, 10, 11, 15, 16, 17] [101, 102] (by kernel_rfl) ?_
    refine Run.skipN (by kernel_rfl) ?_
    replace h := Option.some.inj h
    subst h
    exact ⟨rfl, by kernel_rfl⟩

def f29_l0_post (x1 : Int) (x4 : List (Int × Int × Int × Int × Int)) (x5 : Int) (x7 : Int × Int) (x8 : Int × Int) : (Int × Bool) → Ex → St → Prop
  | o, x, s => x = .out 0 ∧ s = ⟨[(10, (.d t2 o.1)), (11, (.d t4 o.2))], []⟩

def f29_l0_b (x1 : Int) (x4 : List (Int × Int × Int × Int × Int)) (x5 : Int) (x7 : Int × Int) (x8 : Int × Int) (again : Int × Bool × Int → Option (Int × Bool)) : Int × Bool × Int → Option (Int × Bool)
  | (x2, x3, x6) =>
    (bif (decide (x6 < x5)) then
      gd (0 ≤ x6) <|
      gd (x6 < ((List.length x4 : Nat) : Int)) <|
      (F53 (List.getD x4 (toN x6) ((0 : Int), (0 : Int), (0 : Int), (0 : Int), (0 : Int))) x7 x8 x1).bind fun y21 =>
      (bif y21 then
        (bif (!x3) then
          again ((List.getD x4 (toN x6) ((0 : Int), (0 : Int), (0 : Int), (0 : Int), (0 : Int))).2.2.2.2, true, (wrapI .i64 (x6 + (1 : Int))))
        else
          ((f29_c1 x2 x3 (decide (x2 < (List.getD x4 (toN x6) ((0 : Int), (0 : Int), (0 : Int), (0 : Int), (0 : Int))).2.2.2.2)) (List.getD x4 (toN x6) ((0 : Int), (0 : Int), (0 : Int), (0 : Int), (0 : Int)))).bind fun o32 =>
            again (o32.1, o32.2, (wrapI .i64 (x6 + (1 : Int))))))
      else
        again (x2, x3, (wrapI .i64 (x6 + (1 : Int)))))
    else
      some (x2, x3))

def f29_l0 (x1 : Int) (x4 : List (Int × Int × Int × Int × Int)) (x5 : Int) (x7 : Int × Int) (x8 : Int × Int) : Nat → Int × Bool × Int → Option (Int × Bool) := loopF (f29_l0_b x1 x4 x5 x7 x8)

theorem f29_l0_ok (x1 : Int) (x4 : List (Int × Int × Int × Int × Int)) (x5 : Int) (x7 : Int × Int) (x8 : Int × Int) (k : Nat) (x2 : Int) (x3 : Bool) (x6 : Int) {out : (Int × Bool)} (h : f29_l0 x1 x4 x5 x7 x8 k (x2, x3, x6) = some out) : Run Pg 41 (bk1 (sq2 (sq1 (sq2 (sq2 c_29))))) ⟨[(3, (.d t2 x1)), (5, (.ptr 101 0)), (6, (.ptr 102 0)), (10, (.d t2 x2)), (11, (.d t4 x3)), (15, (.d t22 x4)), (16, (.d t2 x5)), (17, (.d t2 x6))], [(101, (.box (.vcons (.d t28 x7) .vnil))), (102, (.box (.vcons (.d t28 x8) .vnil)))]⟩ (f29_l0_post x1 x4 x5 x7 x8 out) := by
  refine Run.loopN (by kernel_rfl) (fun m s => ∃ x2 x3 x6, s = ⟨[(3, (.d t2 x1)), (5, (.ptr 101 0)), (6, (.ptr 102 0)), (10, (.d t2 x2)), (11, (.d t4 x3)), (15, (.d t22 x4)), (16, (.d t2 x5)), (17, (.d t2 x6))], [(101, (.box (.vcons (.d t28 x7) .vnil))), (102, (.box (.vcons (.d t28 x8) .vnil)))]⟩ ∧ f29_l0 x1 x4 x5 x7 x8 m (x2, x3, x6) = some out) ?_ k ⟨x2, x3, x6,  rfl, h⟩
  rintro m s ⟨x2, x3, x6,  rfl, h⟩
  cases m with
  | zero => cases h
  | succ m =>
  replace h : f29_l0_b x1 x4 x5 x7 x8 (f29_l0 x1 x4 x5 x7 x8 m) (x2, x3, x6) = some out := h
  unfold f29_l0_b at h
  refine Run.regN hX [] 400 [3, 5, 6, 10, 11, 15, 16, 17, 18] [101, 102] ⟨[(3, (.d t2 x1)), (5, (.ptr 101 0)), (6, (.ptr 102 0)), (10, (.d t2 x2)), (11, (.d t4 x3)), (15, (.d t22 x4)), (16, (.d t2 x5)), (17, (.d t2 x6)), (18, (.d t4 (decide (x6 < x5))))], [(101, (.box (.vcons (.d t28 x7) .vnil))), (102, (.box (.vcons (.d t28 x8) .vnil)))]⟩ [] (by kernel_rfl) (by kernel_rfl) trivial ?_
  refine Run.seqN (by kernel_rfl) ?_
  refine Run.condN (decide (x6 < x5)) (by kernel_rfl) (fun hb => ?_) (fun hb => ?_)
  · replace h := bif_t h hb
    refine Run.skipN (by kernel_rfl) ?_
    show Run Pg 41 _ _ _
    refine Run.seqN (by kernel_rfl) ?_
    refine Run.blockN 1 (by kernel_rfl) ?_
    obtain ⟨g_0, h⟩ := gd_elim h
    obtain ⟨g_1, h⟩ := gd_elim h
    refine Run.regN hX [] 500 [3, 5, 6, 10, 11, 13, 15, 16, 17] [101, 102, 502] ⟨[(3, (.d t2 x1)), (5, (.ptr 101 0)), (6, (.ptr 102 0)), (10, (.d t2 x2)), (11, (.d t4 x3)), (13, (.ptr 502 0)), (15, (.d t22 x4)), (16, (.d t2 x5)), (17, (.d t2 x6))], [(101, (.box (.vcons (.d t28 x7) .vnil))), (102, (.box (.vcons (.d t28 x8) .vnil))), (502, (.box (.vcons (.d t55 (List.getD x4 (toN x6) ((0 : Int), (0 : Int), (0 : Int), (0 : Int), (0 : Int)))) .vnil)))]⟩ [(0 ≤ x6), (x6 < ((List.length x4 : Nat) : Int))] (by kernel_rfl) (by kernel_rfl) ⟨g_0, g_1, trivial⟩ ?_
    obtain ⟨y21, h_y21, h⟩ := bnd_elim h
    rcases bif_elim h with ⟨hb1, h⟩ | ⟨hb1, h⟩
    · rcases bif_elim h with ⟨hb2, h⟩ | ⟨hb2, h⟩
      · refine Run.regN hX [(4, .call (.d t4 y21)), (5, .b true), (8, .b true)] 600 [3, 5, 6, 10, 11, 13, 15, 16, 17, 35] [101, 102, 502] ⟨[(3, (.d t2 x1)), (5, (.ptr 101 0)), (6, (.ptr 102 0)), (10, (.d t2 x2)), (11, (.d t4 x3)), (13, (.ptr 502 0)), (15, (.d t22 x4)), (16, (.d t2 x5)), (17, (.d t2 x6)), (35, (.d t4 true))], [(101, (.box (.vcons (.d t28 x7) .vnil))), (102, (.box (.vcons (.d t28 x8) .vnil))), (502, (.box (.vcons (.d t55 (List.getD x4 (toN x6) ((0 : Int), (0 : Int), (0 : Int), (0 : Int), (0 : Int)))) .vnil)))]⟩ [CallPure Pg 53 [(.d t55 (List.getD x4 (toN x6) ((0 : Int), (0 : Int), (0 : Int), (0 : Int), (0 : Int)))), (.d t28 x7), (.d t28 x8), (.d t2 x1)] (.d t4 y21), y21 = true, (!x3) = true] (by kernel_rfl) (by kernel_rfl) ⟨(c53 h_y21), hb1, hb2, trivial⟩ ?_
        refine Run.condN true (by kernel_rfl) (fun hb => ?_) (fun hb => (by cases hb))
        refine Run.regE hX [] 700 [3, 5, 6, 10, 11, 15, 16, 17] [101, 102] ⟨[(3, (.d t2 x1)), (5, (.ptr 101 0)), (6, (.ptr 102 0)), (10, (.d t2 (List.getD x4 (toN x6) ((0 : Int), (0 : Int), (0 : Int), (0 : Int), (0 : Int))).2.2.2.2)), (11, (.d t4 true)), (15, (.d t22 x4)), (16, (.d t2 x5)), (17, (.d t2 x6))], [(101, (.box (.vcons (.d t28 x7) .vnil))), (102, (.box (.vcons (.d t28 x8) .vnil)))]⟩ [] (by kernel_rfl) trivial ?_
        show Run Pg 41 _ _ _
        refine Run.regE hX [] 800 [3, 5, 6, 10, 11, 15, 16, 17] [101, 102] ⟨[(3, (.d t2 x1)), (5, (.ptr 101 0)), (6, (.ptr 102 0)), (10, (.d t2 (List.getD x4 (toN x6) ((0 : Int), (0 : Int), (0 : Int), (0 : Int), (0 : Int))).2.2.2.2)), (11, (.d t4 true)), (15, (.d t22 x4)), (16, (.d t2 x5)), (17, (.d t2 (wrapI .i64 (x6 + (1 : Int)))))], [(101, (.box (.vcons (.d t28 x7) .vnil))), (102, (.box (.vcons (.d t28 x8) .vnil)))]⟩ [] (by kernel_rfl) trivial ?_
        exact ⟨m, Nat.lt_succ_self m, _, _, _, rfl, h⟩
      · refine Run.regN hX [(4, .call (.d t4 y21)), (5, .b true), (8, .b false)] 600 [3, 5, 6, 10, 11, 13, 15, 16, 17, 35] [101, 102, 502] ⟨[(3, (.d t2 x1)), (5, (.ptr 101 0)), (6, (.ptr 102 0)), (10, (.d t2 x2)), (11, (.d t4 x3)), (13, (.ptr 502 0)), (15, (.d t22 x4)), (16, (.d t2 x5)), (17, (.d t2 x6)), (35, (.d t4 (decide (x2 < (List.getD x4 (toN x6) ((0 : Int), (0 : Int), (0 : Int), (0 : Int), (0 : Int))).2.2.2.2))))], [(101, (.box (.vcons (.d t28 x7) .vnil))), (102, (.box (.vcons (.d t28 x8) .vnil))), (502, (.box (.vcons (.d t55 (List.getD x4 (toN x6) ((0 : Int), (0 : Int), (0 : Int), (0 : Int), (0 : Int)))) .vnil)))]⟩ [CallPure Pg 53 [(.d t55 (List.getD x4 (toN x6) ((0 : Int), (0 : Int), (0 : Int), (0 : Int), (0 : Int)))), (.d t28 x7), (.d t28 x8), (.d t2 x1)] (.d t4 y21), y21 = true, (!x3) = false] (by kernel_rfl) (by kernel_rfl) ⟨(c53 h_y21), hb1, hb2, trivial⟩ ?_
        obtain ⟨o32, h_o32, h⟩ := bnd_elim h
        refine Run.mono (f29_c1_ok x1 x2 x3 x4 x5 x6 (decide (x2 < (List.getD x4 (toN x6) ((0 : Int), (0 : Int), (0 : Int), (0 : Int), (0 : Int))).2.2.2.2)) x7 x8 (List.getD x4 (toN x6) ((0 : Int), (0 : Int), (0 : Int), (0 : Int), (0 : Int))) h_o32) ?_
        rintro x s ⟨hx, hs⟩
        subst hx
        subst hs
        show Run Pg 41 _ _ _
        refine Run.regE hX [] 800 [3, 5, 6, 10, 11, 15, 16, 17] [101, 102] ⟨[(3, (.d t2 x1)), (5, (.ptr 101 0)), (6, (.ptr 102 0)), (10, (.d t2 o32.1)), (11, (.d t4 o32.2)), (15, (.d t22 x4)), (16, (.d t2 x5)), (17, (.d t2 (wrapI .i64 (x6 + (1 : Int)))))], [(101, (.box (.vcons (.d t28 x7) .vnil))), (102, (.box (.vcons (.d t28 x8) .vnil)))]⟩ [] (by kernel_rfl) trivial ?_
        exact ⟨m, Nat.lt_succ_self m, _, _, _, rfl, h⟩
    · refine Run.regN hX [(4, .call (.d t4 y21)), (5, .b false)] 600 [3, 5, 6, 10, 11, 13, 15, 16, 17, 35] [101, 102, 502] ⟨[(3, (.d t2 x1)), (5, (.ptr 101 0)), (6, (.ptr 102 0)), (10, (.d t2 x2)), (11, (.d t4 x3)), (13, (.ptr 502 0)), (15, (.d t22 x4)), (16, (.d t2 x5)), (17, (.d t2 x6)), (35, (.d t4 false))], [(101, (.box (.vcons (.d t28 x7) .vnil))), (102, (.box (.vcons (.d t28 x8) .vnil))), (502, (.box (.vcons (.d t55 (List.getD x4 (toN x6) ((0 : Int), (0 : Int), (0 : Int), (0 : Int), (0 : Int)))) .vnil)))]⟩ [CallPure Pg 53 [(.d t55 (List.getD x4 (toN x6) ((0 : Int), (0 : Int), (0 : Int), (0 : Int), (0 : Int)))), (.d t28 x7), (.d t28 x8), (.d t2 x1)] (.d t4 y21), y21 = false] (by kernel_rfl) (by kernel_rfl) ⟨(c53 h_y21), hb1, trivial⟩ ?_
      refine Run.condN false (by kernel_rfl) (fun hb => (by cases hb)) (fun hb => ?_)
      refine Run.skipN (by kernel_rfl) ?_
      show Run Pg 41 _ _ _
      refine Run.regE hX [] 800 [3, 5, 6, 10, 11, 15, 16, 17] [101, 102] ⟨[(3, (.d t2 x1)), (5, (.ptr 101 0)), (6, (.ptr 102 0)), (10, (.d t2 x2)), (11, (.d t4 x3)), (15, (.d t22 x4)), (16, (.d t2 x5)), (17, (.d t2 (wrapI .i64 (x6 + (1 : Int)))))], [(101, (.box (.vcons (.d t28 x7) .vnil))), (102, (.box (.vcons (.d t28 x8) .vnil)))]⟩ [] (by kernel_rfl) trivial ?_
      exact ⟨m, Nat.lt_succ_self m, _, _, _, rfl, h⟩
  · replace h := bif_f h hb
    refine Run.keep (s' := ⟨[(10, (.d t2 x2)), (11, (.d t4 x3))], []⟩) [10, 11] [] (by kernel_rfl) ?_
    refine Run.exitN 0 (by kernel_rfl) ?_
    replace h := Option.some.inj h
    subst h
    exact ⟨rfl, by kernel_rfl⟩

def F29 (a0 : Int × Int × Int × Int × Int × Int × (List (Int × Int × Int × Int × Int)) × Int) (a1 : Int × Int) (a2 : Int × Int) (a3 : Int) : Option (Int × Bool) :=
  ((f29_l0 a3 a0.2.2.2.2.2.2.1 (ofN (List.length a0.2.2.2.2.2.2.1)) a1 a2 (2 + List.length a0.2.2.2.2.2.2.1) ((0 : Int), false, (0 : Int))).bind fun o33 =>
    some (o33.1, o33.2))

theorem c29 {a0 : Int × Int × Int × Int × Int × Int × (List (Int × Int × Int × Int × Int)) × Int} {a1 : Int × Int} {a2 : Int × Int} {a3 : Int} {r : Int × Bool} (h : F29 a0 a1 a2 a3 = some r) : CallPure Pg 29 [(.d t23 a0), (.d t28 a1), (.d t28 a2), (.d t2 a3)] (.tup (.vcons (.d t2 r.1) (.vcons (.d t4 r.2) .vnil))) := by
  refine callPureN hX c_29 41 [.tmp 8, .tmp 9] [2, 4] Go.Proofs.Try.func29 (by kernel_rfl) (by kernel_rfl) (by kernel_rfl) (Nat.le_of_ble_eq_true rfl) rfl rfl ?_
  show Run Pg 41 c_29 ⟨[(0, (.d t23 a0)), (1, (.d t28 a1)), (2, (.d t28 a2)), (3, (.d t2 a3))], []⟩ (fin29 r)
  unfold F29 at h
  refine Run.regN hX [] 100 [3, 4, 5, 6] [100, 101, 102] ⟨[(3, (.d t2 a3)), (4, (.ptr 100 0)), (5, (.ptr 101 0)), (6, (.ptr 102 0))], [(100, (.box (.vcons (.d t23 a0) .vnil))), (101, (.box (.vcons (.d t28 a1) .vnil))), (102, (.box (.vcons (.d t28 a2) .vnil)))]⟩ [] (by kernel_rfl) (by kernel_rfl) trivial ?_
  refine Run.regN hX [] 200 [3, 4, 5, 6, 10, 11] [100, 101, 102] ⟨[(3, (.d t2 a3)), (4, (.ptr 100 0)), (5, (.ptr 101 0)), (6, (.ptr 102 0)), (10, (.d t2 (0 : Int))), (11, (.d t4 false))], [(100, (.box (.vcons (.d t23 a0) .vnil))), (101, (.box (.vcons (.d t28 a1) .vnil))), (102, (.box (.vcons (.d t28 a2) .vnil)))]⟩ [] (by kernel_rfl) (by kernel_rfl) trivial ?_
  refine Run.seqN (by kernel_rfl) ?_
  refine Run.regN hX [] 300 [3, 5, 6, 10, 11, 15, 16, 17] [101, 102] ⟨[(3, (.d t2 a3)), (5, (.ptr 101 0)), (6, (.ptr 102 0)), (10, (.d t2 (0 : Int))), (11, (.d t4 false)), (15, (.d t22 a0.2.2.2.2.2.2.1)), (16, (.d t2 (ofN (List.length a0.2.2.2.2.2.2.1)))), (17, (.d t2 (0 : Int)))], [(101, (.box (.vcons (.d t28 a1) .vnil))), (102, (.box (.vcons (.d t28 a2) .vnil)))]⟩ [] (by kernel_rfl) (by kernel_rfl) trivial ?_
  refine Run.blockN 0 (by kernel_rfl) ?_
  obtain ⟨o33, h_o33, h⟩ := bnd_elim h
  refine Run.mono (f29_l0_ok a3 a0.2.2.2.2.2.2.1 (ofN (List.length a0.2.2.2.2.2.2.1)) a1 a2 _ (0 : Int) false (0 : Int) h_o33) ?_
  rintro x s ⟨hx, hs⟩
  subst hx
  subst hs
  show Run Pg 41 _ _ _
  refine Run.regN hX [] 900 [8, 9] [] ⟨[(8, (.d t2 o33.1)), (9, (.d t4 o33.2))], []⟩ [] (by kernel_rfl) (by kernel_rfl) trivial ?_
  refine Run.retN (by kernel_rfl) ?_
  replace h := Option.some.inj h
  subst h
  exact ⟨[(.d t2 o33.1), (.d t4 o33.2)], by kernel_rfl, by kernel_rfl⟩

/-! ## f9 -/

noncomputable def c_9 : Code := body0 Go.Proofs.Try.f9

def fin9 (r : Int) : Ex → St → Prop := endK X0 [.tmp 8] [2] (.d t2 r)

def F9 (a0 : Int × Int × Int × Int × Int × Int × (List (Int × Int × Int × Int × Int)) × Int) (a1 : Int × Int) (a2 : Int × Int) (a3 : Int) : Option (Int) :=
  (F29 a0 a1 a2 a3).bind fun y1 =>
  some (wrapI .i64 ((1000 : Int) + (max2i (0 : Int) y1.1)))

theorem c9 {a0 : Int × Int × Int × Int × Int × Int × (List (Int × Int × Int × Int × Int)) × Int} {a1 : Int × Int} {a2 : Int × Int} {a3 : Int} {r : Int} (h : F9 a0 a1 a2 a3 = some r) : CallPure Pg 9 [(.d t23 a0), (.d t28 a1), (.d t28 a2), (.d t2 a3)] (.d t2 r) := by
  refine callPureN hX c_9 22 [.tmp 8] [2] Go.Proofs.Try.func9 (by kernel_rfl) (by kernel_rfl) (by kernel_rfl) (Nat.le_of_ble_eq_true rfl) rfl rfl ?_
  show Run Pg 22 c_9 ⟨[(0, (.d t23 a0)), (1, (.d t28 a1)), (2, (.d t28 a2)), (3, (.d t2 a3))], []⟩ (fin9 r)
  unfold F9 at h
  refine Run.regN hX [] 100 [3, 4, 5, 6] [100, 101, 102] ⟨[(3, (.d t2 a3)), (4, (.ptr 100 0)), (5, (.ptr 101 0)), (6, (.ptr 102 0))], [(100, (.box (.vcons (.d t23 a0) .vnil))), (101, (.box (.vcons (.d t28 a1) .vnil))), (102, (.box (.vcons (.d t28 a2) .vnil)))]⟩ [] (by kernel_rfl) (by kernel_rfl) trivial ?_
  obtain ⟨y1, h_y1, h⟩ := bnd_elim h
  refine Run.regN hX [(4, .call (.tup (.vcons (.d t2 y1.1) (.vcons (.d t4 y1.2) .vnil))))] 200 [9] [] ⟨[(9, (.d t2 y1.1))], []⟩ [CallPure Pg 29 [(.d t23 a0), (.d t28 a1), (.d t28 a2), (.d t2 a3)] (.tup (.vcons (.d t2 y1.1) (.vcons (.d t4 y1.2) .vnil)))] (by kernel_rfl) (by kernel_rfl) ⟨(c29 h_y1), trivial⟩ ?_
  refine Run.regN hX [] 300 [8] [] ⟨[(8, (.d t2 (wrapI .i64 ((1000 : Int) + (max2i (0 : Int) y1.1)))))], []⟩ [] (by kernel_rfl) (by kernel_rfl) trivial ?_
  refine Run.retN (by kernel_rfl) ?_
  replace h := Option.some.inj h
  subst h
  exact ⟨[(.d t2 (wrapI .i64 ((1000 : Int) + (max2i (0 : Int) y1.1))))], by kernel_rfl, by kernel_rfl⟩

/-! ## f20 -/

noncomputable def c_20 : Code := body0 Go.Proofs.Try.f20

def fin20 (r : Int) : Ex → St → Prop := endK X0 [.tmp 2] [2] (.d t2 r)

def f20_l0_post (x1 : List (Int × Int)) : (Int) → Ex → St → Prop
  | o, x, s => x = .out 0 ∧ s = ⟨[(3, (.d t2 o))], []⟩

def f20_l0_b (x1 : List (Int × Int)) (again : Int × Int → Option (Int)) : Int × Int → Option (Int)
  | (x2, x3) =>
    (bif (decide (x3 < (ofN (List.length x1)))) then
      gd (0 ≤ (wrapI .i64 (x3 - (1 : Int)))) <|
      gd ((wrapI .i64 (x3 - (1 : Int))) < ((List.length x1 : Nat) : Int)) <|
      gd (0 ≤ x3) <|
      gd (x3 < ((List.length x1 : Nat) : Int)) <|
      (F42 (List.getD x1 (toN (wrapI .i64 (x3 - (1 : Int)))) ((0 : Int), (0 : Int))) (List.getD x1 (toN x3) ((0 : Int), (0 : Int)))).bind fun y5 =>
      again ((wrapI .i64 (x2 + y5)), (wrapI .i64 (x3 + (1 : Int))))
    else
      some x2)

def f20_l0 (x1 : List (Int × Int)) : Nat → Int × Int → Option (Int) := loopF (f20_l0_b x1)

theorem f20_l0_ok (x1 : List (Int × Int)) (k : Nat) (x2 : Int) (x3 : Int) {out : (Int)} (h : f20_l0 x1 k (x2, x3) = some out) : Run Pg 24 (bk1 (sq2 (sq1 (sq2 (sq2 c_20))))) ⟨[(0, (.d t45 x1)), (3, (.d t2 x2)), (4, (.d t2 x3))], []⟩ (f20_l0_post x1 out) := by
  refine Run.loopN (by kernel_rfl) (fun m s => ∃ x2 x3, s = ⟨[(0, (.d t45 x1)), (3, (.d t2 x2)), (4, (.d t2 x3))], []⟩ ∧ f20_l0 x1 m (x2, x3) = some out) ?_ k ⟨x2, x3,  rfl, h⟩
  rintro m s ⟨x2, x3,  rfl, h⟩
  cases m with
  | zero => cases h
  | succ m =>
  replace h : f20_l0_b x1 (f20_l0 x1 m) (x2, x3) = some out := h
  unfold f20_l0_b at h
  refine Run.seqN (by kernel_rfl) ?_
  refine Run.regN hX [] 400 [0, 3, 4, 8] [] ⟨[(0, (.d t45 x1)), (3, (.d t2 x2)), (4, (.d t2 x3)), (8, (.d t4 (decide (x3 < (ofN (List.length x1))))))], []⟩ [] (by kernel_rfl) (by kernel_rfl) trivial ?_
  refine Run.condN (decide (x3 < (ofN (List.length x1)))) (by kernel_rfl) (fun hb => ?_) (fun hb => ?_)
  · replace h := bif_t h hb
    refine Run.skipN (by kernel_rfl) ?_
    show Run Pg 24 _ _ _
    refine Run.seqN (by kernel_rfl) ?_
    refine Run.blockN 1 (by kernel_rfl) ?_
    obtain ⟨g_0, h⟩ := gd_elim h
    obtain ⟨g_1, h⟩ := gd_elim h
    obtain ⟨g_2, h⟩ := gd_elim h
    obtain ⟨g_3, h⟩ := gd_elim h
    obtain ⟨y5, h_y5, h⟩ := bnd_elim h
    refine Run.regE hX [(10, .call (.d t2 y5))] 600 [0, 3, 4] [] ⟨[(0, (.d t45 x1)), (3, (.d t2 (wrapI .i64 (x2 + y5)))), (4, (.d t2 x3))], []⟩ [(0 ≤ (wrapI .i64 (x3 - (1 : Int)))), ((wrapI .i64 (x3 - (1 : Int))) < ((List.length x1 : Nat) : Int)), (0 ≤ x3), (x3 < ((List.length x1 : Nat) : Int)), CallPure Pg 42 [(.d t28 (List.getD x1 (toN (wrapI .i64 (x3 - (1 : Int)))) ((0 : Int), (0 : Int)))), (.d t28 (List.getD x1 (toN x3) ((0 : Int), (0 : Int))))] (.d t2 y5)] (by kernel_rfl) ⟨g_0, g_1, g_2, g_3, (c42 h_y5), trivial⟩ ?_
    show Run Pg 24 _ _ _
    refine Run.regE hX [] 500 [0, 3, 4] [] ⟨[(0, (.d t45 x1)), (3, (.d t2 (wrapI .i64 (x2 + y5)))), (4, (.d t2 (wrapI .i64 (x3 + (1 : Int)))))], []⟩ [] (by kernel_rfl) trivial ?_
    exact ⟨m, Nat.lt_succ_self m, _, _, rfl, h⟩
  · replace h := bif_f h hb
    refine Run.keep (s' := ⟨[(3, (.d t2 x2))], []⟩) [3] [] (by kernel_rfl) ?_
    refine Run.exitN 0 (by kernel_rfl) ?_
    replace h := Option.some.inj h
    subst h
    exact ⟨rfl, by kernel_rfl⟩

def F20 (a0 : List (Int × Int)) : Option (Int) :=
  ((f20_l0 a0 (2 + List.length a0) ((0 : Int), (1 : Int))).bind fun o6 =>
    some o6)

theorem c20 {a0 : List (Int × Int)} {r : Int} (h : F20 a0 = some r) : CallPure Pg 20 [(.d t45 a0)] (.d t2 r) := by
  refine callPureN hX c_20 24 [.tmp 2] [2] Go.Proofs.Try.func20 (by kernel_rfl) (by kernel_rfl) (by kernel_rfl) (Nat.le_of_ble_eq_true rfl) rfl rfl ?_
  show Run Pg 24 c_20 ⟨[(0, (.d t45 a0))], []⟩ (fin20 r)
  unfold F20 at h
  refine Run.regN hX [] 100 [0] [] ⟨[(0, (.d t45 a0))], []⟩ [] (by kernel_rfl) (by kernel_rfl) trivial ?_
  refine Run.regN hX [] 200 [0, 3] [] ⟨[(0, (.d t45 a0)), (3, (.d t2 (0 : Int)))], []⟩ [] (by kernel_rfl) (by kernel_rfl) trivial ?_
  refine Run.seqN (by kernel_rfl) ?_
  refine Run.regN hX [] 300 [0, 3, 4] [] ⟨[(0, (.d t45 a0)), (3, (.d t2 (0 : Int))), (4, (.d t2 (1 : Int)))], []⟩ [] (by kernel_rfl) (by kernel_rfl) trivial ?_
  refine Run.blockN 0 (by kernel_rfl) ?_
  obtain ⟨o6, h_o6, h⟩ := bnd_elim h
  refine Run.mono (f20_l0_ok a0 _ (0 : Int) (1 : Int) h_o6) ?_
  rintro x s ⟨hx, hs⟩
  subst hx
  subst hs
  show Run Pg 24 _ _ _
  refine Run.regN hX [] 700 [2] [] ⟨[(2, (.d t2 o6))], []⟩ [] (by kernel_rfl) (by kernel_rfl) trivial ?_
  refine Run.retN (by kernel_rfl) ?_
  replace h := Option.some.inj h
  subst h
  exact ⟨[(.d t2 o6)], by kernel_rfl, by kernel_rfl⟩

/-! ## f5 -/

noncomputable def c_5 : Code := body0 Go.Proofs.Try.f5

def fin5 (r : Bool) : Ex → St → Prop := endK X0 [.tmp 0] [4] (.d t4 r)

def F5  : Option (Bool) :=
  (F18 ).bind fun y1 =>
  (F19 y1 (5000 : Int) (0 : Int)).bind fun y2 =>
  (F10 (0 : Int) (1000 : Int)).bind fun y3 =>
  (F10 (30000 : Int) (1000 : Int)).bind fun y4 =>
  (F14 y2 y3 y4).bind fun y5 =>
  (F10 (0 : Int) (0 : Int)).bind fun y6 =>
  (F10 (30000 : Int) (0 : Int)).bind fun y7 =>
  (F9 y1 y6 y7 (3000 : Int)).bind fun y8 =>
  (bif (y8 == (9000 : Int)) then
    (F10 (0 : Int) (9000 : Int)).bind fun y9 =>
    (F10 (30000 : Int) (9000 : Int)).bind fun y10 =>
    (F9 y1 y9 y10 (3000 : Int)).bind fun y11 =>
    (bif (y11 == (1000 : Int)) then
      (bif (y5.2 == (0 : Int)) then
        (F20 y5.1).bind fun y12 =>
        (bif (y12 == (30000 : Int)) then
          gd ((0 : Int) < ((List.length y1.2.2.2.2.2.2.1 : Nat) : Int)) <|
          (F10 (0 : Int) (1000 : Int)).bind fun y13 =>
          (F10 (30000 : Int) (1000 : Int)).bind fun y14 =>
          (F21 (List.getD y1.2.2.2.2.2.2.1 (toN (0 : Int)) ((0 : Int), (0 : Int), (0 : Int), (0 : Int), (0 : Int))) y13 y14).bind fun y15 =>
          some y15
        else
          some false)
      else
        some false)
    else
      some false)
  else
    some false)

theorem c5  {r : Bool} (h : F5  = some r) : CallPure Pg 5 [] (.d t4 r) := by
  refine callPureN hX c_5 43 [.tmp 0] [4] Go.Proofs.Try.func5 (by kernel_rfl) (by kernel_rfl) (by kernel_rfl) (Nat.le_of_ble_eq_true rfl) rfl rfl ?_
  show Run Pg 43 c_5 ⟨[], []⟩ (fin5 r)
  unfold F5 at h
  refine Run.regN hX [] 100 [] [] ⟨[], []⟩ [] (by kernel_rfl) (by kernel_rfl) trivial ?_
  obtain ⟨y1, h_y1, h⟩ := bnd_elim h
  refine Run.regN hX [(0, .call (.d t23 y1))] 200 [1] [201] ⟨[(1, (.ptr 201 0))], [(201, (.box (.vcons (.d t23 y1) .vnil)))]⟩ [CallPure Pg 18 [] (.d t23 y1)] (by kernel_rfl) (by kernel_rfl) ⟨(c18 h_y1), trivial⟩ ?_
  obtain ⟨y2, h_y2, h⟩ := bnd_elim h
  obtain ⟨y3, h_y3, h⟩ := bnd_elim h
  obtain ⟨y4, h_y4, h⟩ := bnd_elim h
  obtain ⟨y5, h_y5, h⟩ := bnd_elim h
  refine Run.regN hX [(1, .call (.d t22 y2)), (2, .call (.d t28 y3)), (3, .call (.d t28 y4)), (4, .call (.tup (.vcons (.d t45 y5.1) (.vcons (.d t2 y5.2) .vnil))))] 300 [1, 2, 3] [201] ⟨[(1, (.ptr 201 0)), (2, (.d t45 y5.1)), (3, (.d t2 y5.2))], [(201, (.box (.vcons (.d t23 y1) .vnil)))]⟩ [CallPure Pg 19 [(.d t23 y1), (.d t2 (5000 : Int)), (.d t2 (0 : Int))] (.d t22 y2), CallPure Pg 10 [(.d t2 (0 : Int)), (.d t2 (1000 : Int))] (.d t28 y3), CallPure Pg 10 [(.d t2 (30000 : Int)), (.d t2 (1000 : Int))] (.d t28 y4), CallPure Pg 14 [(.d t22 y2), (.d t28 y3), (.d t28 y4)] (.tup (.vcons (.d t45 y5.1) (.vcons (.d t2 y5.2) .vnil)))] (by kernel_rfl) (by kernel_rfl) ⟨(c19 h_y2), (c10 h_y3), (c10 h_y4), (c14 h_y5), trivial⟩ ?_
  obtain ⟨y6, h_y6, h⟩ := bnd_elim h
  obtain ⟨y7, h_y7, h⟩ := bnd_elim h
  obtain ⟨y8, h_y8, h⟩ := bnd_elim h
  rcases bif_elim h with ⟨hb3, h⟩ | ⟨hb3, h⟩
  · obtain ⟨y9, h_y9, h⟩ := bnd_elim h
    obtain ⟨y10, h_y10, h⟩ := bnd_elim h
    obtain ⟨y11, h_y11, h⟩ := bnd_elim h
    rcases bif_elim h with ⟨hb7, h⟩ | ⟨hb7, h⟩
    · rcases bif_elim h with ⟨hb8, h⟩ | ⟨hb8, h⟩
      · obtain ⟨y12, h_y12, h⟩ := bnd_elim h
        rcases bif_elim h with ⟨hb10, h⟩ | ⟨hb10, h⟩
        · obtain ⟨g_12, h⟩ := gd_elim h
          obtain ⟨y13, h_y13, h⟩ := bnd_elim h
          obtain ⟨y14, h_y14, h⟩ := bnd_elim h
          obtain ⟨y15, h_y15, h⟩ := bnd_elim h
          refine Run.regN hX [(1, .call (.d t28 y6)), (2, .call (.d t28 y7)), (3, .call (.d t2 y8)), (5, .b true), (7, .call (.d t28 y9)), (8, .call (.d t28 y10)), (9, .call (.d t2 y11)), (12, .b true), (16, .b true), (18, .call (.d t2 y12)), (21, .b true), (26, .call (.d t28 y13)), (27, .call (.d t28 y14)), (28, .call (.d t4 y15))] 400 [0] [] ⟨[(0, (.d t4 y15))], []⟩ [CallPure Pg 10 [(.d t2 (0 : Int)), (.d t2 (0 : Int))] (.d t28 y6), CallPure Pg 10 [(.d t2 (30000 : Int)), (.d t2 (0 : Int))] (.d t28 y7), CallPure Pg 9 [(.d t23 y1), (.d t28 y6), (.d t28 y7), (.d t2 (3000 : Int))] (.d t2 y8), (y8 == (9000 : Int)) = true, CallPure Pg 10 [(.d t2 (0 : Int)), (.d t2 (9000 : Int))] (.d t28 y9), CallPure Pg 10 [(.d t2 (30000 : Int)), (.d t2 (9000 : Int))] (.d t28 y10), CallPure Pg 9 [(.d t23 y1), (.d t28 y9), (.d t28 y10), (.d t2 (3000 : Int))] (.d t2 y11), (y11 == (1000 : Int)) = true, (y5.2 == (0 : Int)) = true, CallPure Pg 20 [(.d t45 y5.1)] (.d t2 y12), (y12 == (30000 : Int)) = true, (0 ≤ (0 : Int)), ((0 : Int) < ((List.length y1.2.2.2.2.2.2.1 : Nat) : Int)), CallPure Pg 10 [(.d t2 (0 : Int)), (.d t2 (1000 : Int))] (.d t28 y13), CallPure Pg 10 [(.d t2 (30000 : Int)), (.d t2 (1000 : Int))] (.d t28 y14), CallPure Pg 21 [(.d t55 (List.getD y1.2.2.2.2.2.2.1 (toN (0 : Int)) ((0 : Int), (0 : Int), (0 : Int), (0 : Int), (0 : Int)))), (.d t28 y13), (.d t28 y14)] (.d t4 y15)] (by kernel_rfl) (by kernel_rfl) ⟨(c10 h_y6), (c10 h_y7), (c9 h_y8), hb3, (c10 h_y9), (c10 h_y10), (c9 h_y11), hb7, hb8, (c20 h_y12), hb10, (by decide), g_12, (c10 h_y13), (c10 h_y14), (c21 h_y15), trivial⟩ ?_
          refine Run.retN (by kernel_rfl) ?_
          replace h := Option.some.inj h
          subst h
          exact ⟨[(.d t4 y15)], by kernel_rfl, by kernel_rfl⟩
        · refine Run.regN hX [(1, .call (.d t28 y6)), (2, .call (.d t28 y7)), (3, .call (.d t2 y8)), (5, .b true), (7, .call (.d t28 y9)), (8, .call (.d t28 y10)), (9, .call (.d t2 y11)), (12, .b true), (16, .b true), (18, .call (.d t2 y12)), (21, .b false)] 400 [0] [] ⟨[(0, (.d t4 false))], []⟩ [CallPure Pg 10 [(.d t2 (0 : Int)), (.d t2 (0 : Int))] (.d t28 y6), CallPure Pg 10 [(.d t2 (30000 : Int)), (.d t2 (0 : Int))] (.d t28 y7), CallPure Pg 9 [(.d t23 y1), (.d t28 y6), (.d t28 y7), (.d t2 (3000 : Int))] (.d t2 y8), (y8 == (9000 : Int)) = true, CallPure Pg 10 [(.d t2 (0 : Int)), (.d t2 (9000 : Int))] (.d t28 y9), CallPure Pg 10 [(.d t2 (30000 : Int)), (.d t2 (9000 : Int))] (.d t28 y10), CallPure Pg 9 [(.d t23 y1), (.d t28 y9), (.d t28 y10), (.d t2 (3000 : Int))] (.d t2 y11), (y11 == (1000 : Int)) = true, (y5.2 == (0 : Int)) = true, CallPure Pg 20 [(.d t45 y5.1)] (.d t2 y12), (y12 == (30000 : Int)) = false] (by kernel_rfl) (by kernel_rfl) ⟨(c10 h_y6), (c10 h_y7), (c9 h_y8), hb3, (c10 h_y9), (c10 h_y10), (c9 h_y11), hb7, hb8, (c20 h_y12), hb10, trivial⟩ ?_
          refine Run.retN (by kernel_rfl) ?_
          replace h := Option.some.inj h
          subst h
          exact ⟨[(.d t4 false)], by kernel_rfl, by kernel_rfl⟩
      · refine Run.regN hX [(1, .call (.d t28 y6)), (2, .call (.d t28 y7)), (3, .call (.d t2 y8)), (5, .b true), (7, .call (.d t28 y9)), (8, .call (.d t28 y10)), (9, .call (.d t2 y11)), (12, .b true), (16, .b false)] 400 [0] [] ⟨[(0, (.d t4 false))], []⟩ [CallPure Pg 10 [(.d t2 (0 : Int)), (.d t2 (0 : Int))] (.d t28 y6), CallPure Pg 10 [(.d t2 (30000 : Int)), (.d t2 (0 : Int))] (.d t28 y7), CallPure Pg 9 [(.d t23 y1), (.d t28 y6), (.d t28 y7), (.d t2 (3000 : Int))] (.d t2 y8), (y8 == (9000 : Int)) = true, CallPure Pg 10 [(.d t2 (0 : Int)), (.d t2 (9000 : Int))] (.d t28 y9), CallPure Pg 10 [(.d t2 (30000 : Int)), (.d t2 (9000 : Int))] (.d t28 y10), CallPure Pg 9 [(.d t23 y1), (.d t28 y9), (.d t28 y10), (.d t2 (3000 : Int))] (.d t2 y11), (y11 == (1000 : Int)) = true, (y5.2 == (0 : Int)) = false] (by kernel_rfl) (by kernel_rfl) ⟨(c10 h_y6), (c10 h_y7), (c9 h_y8), hb3, (c10 h_y9), (c10 h_y10), (c9 h_y11), hb7, hb8, trivial⟩ ?_
        refine Run.retN (by kernel_rfl) ?_
        replace h := Option.some.inj h
        subst h
        exact ⟨[(.d t4 false)], by kernel_rfl, by kernel_rfl⟩
    · refine Run.regN hX [(1, .call (.d t28 y6)), (2, .call (.d t28 y7)), (3, .call (.d t2 y8)), (5, .b true), (7, .call (.d t28 y9)), (8, .call (.d t28 y10)), (9, .call (.d t2 y11)), (12, .b false)] 400 [0] [] ⟨[(0, (.d t4 false))], []⟩ [CallPure Pg 10 [(.d t2 (0 : Int)), (.d t2 (0 : Int))] (.d t28 y6), CallPure Pg 10 [(.d t2 (30000 : Int)), (.d t2 (0 : Int))] (.d t28 y7), CallPure Pg 9 [(.d t23 y1), (.d t28 y6), (.d t28 y7), (.d t2 (3000 : Int))] (.d t2 y8), (y8 == (9000 : Int)) = true, CallPure Pg 10 [(.d t2 (0 : Int)), (.d t2 (9000 : Int))] (.d t28 y9), CallPure Pg 10 [(.d t2 (30000 : Int)), (.d t2 (9000 : Int))] (.d t28 y10), CallPure Pg 9 [(.d t23 y1), (.d t28 y9), (.d t28 y10), (.d t2 (3000 : Int))] (.d t2 y11), (y11 == (1000 : Int)) = false] (by kernel_rfl) (by kernel_rfl) ⟨(c10 h_y6), (c10 h_y7), (c9 h_y8), hb3, (c10 h_y9), (c10 h_y10), (c9 h_y11), hb7, trivial⟩ ?_
      refine Run.retN (by kernel_rfl) ?_
      replace h := Option.some.inj h
      subst h
      exact ⟨[(.d t4 false)], by kernel_rfl, by kernel_rfl⟩
  · refine Run.regN hX [(1, .call (.d t28 y6)), (2, .call (.d t28 y7)), (3, .call (.d t2 y8)), (5, .b false)] 400 [0] [] ⟨[(0, (.d t4 false))], []⟩ [CallPure Pg 10 [(.d t2 (0 : Int)), (.d t2 (0 : Int))] (.d t28 y6), CallPure Pg 10 [(.d t2 (30000 : Int)), (.d t2 (0 : Int))] (.d t28 y7), CallPure Pg 9 [(.d t23 y1), (.d t28 y6), (.d t28 y7), (.d t2 (3000 : Int))] (.d t2 y8), (y8 == (9000 : Int)) = false] (by kernel_rfl) (by kernel_rfl) ⟨(c10 h_y6), (c10 h_y7), (c9 h_y8), hb3, trivial⟩ ?_
    refine Run.retN (by kernel_rfl) ?_
    replace h := Option.some.inj h
    subst h
    exact ⟨[(.d t4 false)], by kernel_rfl, by kernel_rfl⟩

/-! ## f11 -/

noncomputable def c_11 : Code := body0 Go.Proofs.Try.f11

def fin11 (r : Bool) : Ex → St → Prop := endK X0 [.tmp 2] [4] (.d t4 r)

def F11 (a0 : Int × Int × Int × Int × Int × Int × (List (Int × Int × Int × Int × Int)) × Int) : Option (Bool) :=
  some (decide ((ofN (List.length a0.2.2.2.2.2.2.1)) ≤ (6 : Int)))

theorem c11 {a0 : Int × Int × Int × Int × Int × Int × (List (Int × Int × Int × Int × Int)) × Int} {r : Bool} (h : F11 a0 = some r) : CallPure Pg 11 [(.d t23 a0)] (.d t4 r) := by
  refine callPureN hX c_11 7 [.tmp 2] [4] Go.Proofs.Try.func11 (by kernel_rfl) (by kernel_rfl) (by kernel_rfl) (Nat.le_of_ble_eq_true rfl) rfl rfl ?_
  show Run Pg 7 c_11 ⟨[(0, (.d t23 a0))], []⟩ (fin11 r)
  unfold F11 at h
  refine Run.regN hX [] 100 [1] [100] ⟨[(1, (.ptr 100 0))], [(100, (.box (.vcons (.d t23 a0) .vnil)))]⟩ [] (by kernel_rfl) (by kernel_rfl) trivial ?_
  refine Run.regN hX [] 200 [2] [] ⟨[(2, (.d t4 (decide ((ofN (List.length a0.2.2.2.2.2.2.1)) ≤ (6 : Int)))))], []⟩ [] (by kernel_rfl) (by kernel_rfl) trivial ?_
  refine Run.retN (by kernel_rfl) ?_
  replace h := Option.some.inj h
  subst h
  exact ⟨[(.d t4 (decide ((ofN (List.length a0.2.2.2.2.2.2.1)) ≤ (6 : Int))))], by kernel_rfl, by kernel_rfl⟩

/-! ## f48 -/

noncomputable def c_48 : Code := body0 Go.Proofs.Try.f48

def fin48 (r : Bool) : Ex → St → Prop := endK X0 [.tmp 4] [4] (.d t4 r)

def F48 (a0 : Int) (a1 : Int) : Option (Bool) :=
  (bif (decide (a1 ≤ a0)) then
    some (decide (a0 ≤ (10000000 : Int)))
  else
    some false)

theorem c48 {a0 : Int} {a1 : Int} {r : Bool} (h : F48 a0 a1 = some r) : CallPure Pg 48 [(.d t2 a0), (.d t2 a1)] (.d t4 r) := by
  refine callPureN hX c_48 12 [.tmp 4] [4] Go.Proofs.Try.func48 (by kernel_rfl) (by kernel_rfl) (by kernel_rfl) (Nat.le_of_ble_eq_true rfl) rfl rfl ?_
  show Run Pg 12 c_48 ⟨[(0, (.d t2 a0)), (1, (.d t2 a1))], []⟩ (fin48 r)
  unfold F48 at h
  refine Run.regN hX [] 100 [0, 1] [] ⟨[(0, (.d t2 a0)), (1, (.d t2 a1))], []⟩ [] (by kernel_rfl) (by kernel_rfl) trivial ?_
  rcases bif_elim h with ⟨hb0, h⟩ | ⟨hb0, h⟩
  · refine Run.regN hX [(3, .b true)] 200 [4] [] ⟨[(4, (.d t4 (decide (a0 ≤ (10000000 : Int)))))], []⟩ [(decide (a1 ≤ a0)) = true] (by kernel_rfl) (by kernel_rfl) ⟨hb0, trivial⟩ ?_
    refine Run.retN (by kernel_rfl) ?_
    replace h := Option.some.inj h
    subst h
    exact ⟨[(.d t4 (decide (a0 ≤ (10000000 : Int))))], by kernel_rfl, by kernel_rfl⟩
  · refine Run.regN hX [(3, .b false)] 200 [4] [] ⟨[(4, (.d t4 false))], []⟩ [(decide (a1 ≤ a0)) = false] (by kernel_rfl) (by kernel_rfl) ⟨hb0, trivial⟩ ?_
    refine Run.retN (by kernel_rfl) ?_
    replace h := Option.some.inj h
    subst h
    exact ⟨[(.d t4 false)], by kernel_rfl, by kernel_rfl⟩

/-! ## f47 -/

noncomputable def c_47 : Code := body0 Go.Proofs.Try.f47

def fin47 (r : Bool) : Ex → St → Prop := endK X0 [.tmp 8] [4] (.d t4 r)

def F47 (a0 : Int) (a1 : Int) (a2 : Int) (a3 : Int) : Option (Bool) :=
  (F48 a0 (-10000000 : Int)).bind fun y1 =>
  (bif y1 then
    (F48 a1 (-10000000 : Int)).bind fun y2 =>
    (bif y2 then
      (F48 a2 (-10000000 : Int)).bind fun y3 =>
      (bif y3 then
        (F48 a3 (-10000000 : Int)).bind fun y4 =>
        (bif y4 then
          (bif (decide (a0 < a2)) then
            some (decide (a1 < a3))
          else
            some false)
        else
          some false)
      else
        some false)
    else
      some false)
  else
    some false)

theorem c47 {a0 : Int} {a1 : Int} {a2 : Int} {a3 : Int} {r : Bool} (h : F47 a0 a1 a2 a3 = some r) : CallPure Pg 47 [(.d t2 a0), (.d t2 a1), (.d t2 a2), (.d t2 a3)] (.d t4 r) := by
  refine callPureN hX c_47 38 [.tmp 8] [4] Go.Proofs.Try.func47 (by kernel_rfl) (by kernel_rfl) (by kernel_rfl) (Nat.le_of_ble_eq_true rfl) rfl rfl ?_
  show Run Pg 38 c_47 ⟨[(0, (.d t2 a0)), (1, (.d t2 a1)), (2, (.d t2 a2)), (3, (.d t2 a3))], []⟩ (fin47 r)
  unfold F47 at h
  refine Run.regN hX [] 100 [0, 1, 2, 3] [] ⟨[(0, (.d t2 a0)), (1, (.d t2 a1)), (2, (.d t2 a2)), (3, (.d t2 a3))], []⟩ [] (by kernel_rfl) (by kernel_rfl) trivial ?_
  refine Run.regN hX [] 200 [0, 1, 2, 3, 9] [] ⟨[(0, (.d t2 a0)), (1, (.d t2 a1)), (2, (.d t2 a2)), (3, (.d t2 a3)), (9, (.d t2 (-10000000 : Int)))], []⟩ [] (by kernel_rfl) (by kernel_rfl) trivial ?_
  obtain ⟨y1, h_y1, h⟩ := bnd_elim h
  rcases bif_elim h with ⟨hb1, h⟩ | ⟨hb1, h⟩
  · obtain ⟨y2, h_y2, h⟩ := bnd_elim h
    rcases bif_elim h with ⟨hb3, h⟩ | ⟨hb3, h⟩
    · obtain ⟨y3, h_y3, h⟩ := bnd_elim h
      rcases bif_elim h with ⟨hb5, h⟩ | ⟨hb5, h⟩
      · obtain ⟨y4, h_y4, h⟩ := bnd_elim h
        rcases bif_elim h with ⟨hb7, h⟩ | ⟨hb7, h⟩
        · rcases bif_elim h with ⟨hb8, h⟩ | ⟨hb8, h⟩
          · refine Run.regN hX [(2, .call (.d t4 y1)), (3, .b true), (6, .call (.d t4 y2)), (8, .b true), (11, .call (.d t4 y3)), (13, .b true), (16, .call (.d t4 y4)), (18, .b true), (23, .b true)] 300 [8] [] ⟨[(8, (.d t4 (decide (a1 < a3))))], []⟩ [CallPure Pg 48 [(.d t2 a0), (.d t2 (-10000000 : Int))] (.d t4 y1), y1 = true, CallPure Pg 48 [(.d t2 a1), (.d t2 (-10000000 : Int))] (.d t4 y2), y2 = true, CallPure Pg 48 [(.d t2 a2), (.d t2 (-10000000 : Int))] (.d t4 y3), y3 = true, CallPure Pg 48 [(.d t2 a3), (.d t2 (-10000000 : Int))] (.d t4 y4), y4 = true, (decide (a0 < a2)) = true] (by kernel_rfl) (by kernel_rfl) ⟨(c48 h_y1), hb1, (c48 h_y2), hb3, (c48 h_y3), hb5, (c48 h_y4), hb7, hb8, trivial⟩ ?_
            refine Run.retN (by kernel_rfl) ?_
            replace h := Option.some.inj h
            subst h
            exact ⟨[(.d t4 (decide (a1 < a3)))], by kernel_rfl, by kernel_rfl⟩
          · refine Run.regN hX [(2, .call (.d t4 y1)), (3, .b true), (6, .call (.d t4 y2)), (8, .b true), (11, .call (.d t4 y3)), (13, .b true), (16, .call (.d t4 y4)), (18, .b true), (23, .b false)] 300 [8] [] ⟨[(8, (.d t4 false))], []⟩ [CallPure Pg 48 [(.d t2 a0), (.d t2 (-10000000 : Int))] (.d t4 y1), y1 = true, CallPure Pg 48 [(.d t2 a1), (.d t2 (-10000000 : Int))] (.d t4 y2), y2 = true, CallPure Pg 48 [(.d t2 a2), (.d t2 (-10000000 : Int))] (.d t4 y3), y3 = true, CallPure Pg 48 [(.d t2 a3), (.d t2 (-10000000 : Int))] (.d t4 y4), y4 = true, (decide (a0 < a2)) = false] (by kernel_rfl) (by kernel_rfl) ⟨(c48 h_y1), hb1, (c48 h_y2), hb3, (c48 h_y3), hb5, (c48 h_y4), hb7, hb8, trivial⟩ ?_
            refine Run.retN (by kernel_rfl) ?_
            replace h := Option.some.inj h
            subst h
            exact ⟨[(.d t4 false)], by kernel_rfl, by kernel_rfl⟩
        · refine Run.regN hX [(2, .call (.d t4 y1)), (3, .b true), (6, .call (.d t4 y2)), (8, .b true), (11, .call (.d t4 y3)), (13, .b true), (16, .call (.d t4 y4)), (18, .b false)] 300 [8] [] ⟨[(8, (.d t4 false))], []⟩ [CallPure Pg 48 [(.d t2 a0), (.d t2 (-10000000 : Int))] (.d t4 y1), y1 = true, CallPure Pg 48 [(.d t2 a1), (.d t2 (-10000000 : Int))] (.d t4 y2), y2 = true, CallPure Pg 48 [(.d t2 a2), (.d t2 (-10000000 : Int))] (.d t4 y3), y3 = true, CallPure Pg 48 [(.d t2 a3), (.d t2 (-10000000 : Int))] (.d t4 y4), y4 = false] (by kernel_rfl) (by kernel_rfl) ⟨(c48 h_y1), hb1, (c48 h_y2), hb3, (c48 h_y3), hb5, (c48 h_y4), hb7, trivial⟩ ?_
          refine Run.retN (by kernel_rfl) ?_
          replace h := Option.some.inj h
          subst h
          exact ⟨[(.d t4 false)], by kernel_rfl, by kernel_rfl⟩
      · refine Run.regN hX [(2, .call (.d t4 y1)), (3, .b true), (6, .call (.d t4 y2)), (8, .b true), (11, .call (.d t4 y3)), (13, .b false)] 300 [8] [] ⟨[(8, (.d t4 false))], []⟩ [CallPure Pg 48 [(.d t2 a0), (.d t2 (-10000000 : Int))] (.d t4 y1), y1 = true, CallPure Pg 48 [(.d t2 a1), (.d t2 (-10000000 : Int))] (.d t4 y2), y2 = true, CallPure Pg 48 [(.d t2 a2), (.d t2 (-10000000 : Int))] (.d t4 y3), y3 = false] (by kernel_rfl) (by kernel_rfl) ⟨(c48 h_y1), hb1, (c48 h_y2), hb3, (c48 h_y3), hb5, trivial⟩ ?_
        refine Run.retN (by kernel_rfl) ?_
        replace h := Option.some.inj h
        subst h
        exact ⟨[(.d t4 false)], by kernel_rfl, by kernel_rfl⟩
    · refine Run.regN hX [(2, .call (.d t4 y1)), (3, .b true), (6, .call (.d t4 y2)), (8, .b false)] 300 [8] [] ⟨[(8, (.d t4 false))], []⟩ [CallPure Pg 48 [(.d t2 a0), (.d t2 (-10000000 : Int))] (.d t4 y1), y1 = true, CallPure Pg 48 [(.d t2 a1), (.d t2 (-10000000 : Int))] (.d t4 y2), y2 = false] (by kernel_rfl) (by kernel_rfl) ⟨(c48 h_y1), hb1, (c48 h_y2), hb3, trivial⟩ ?_
      refine Run.retN (by kernel_rfl) ?_
      replace h := Option.some.inj h
      subst h
      exact ⟨[(.d t4 false)], by kernel_rfl, by kernel_rfl⟩
  · refine Run.regN hX [(2, .call (.d t4 y1)), (3, .b false)] 300 [8] [] ⟨[(8, (.d t4 false))], []⟩ [CallPure Pg 48 [(.d t2 a0), (.d t2 (-10000000 : Int))] (.d t4 y1), y1 = false] (by kernel_rfl) (by kernel_rfl) ⟨(c48 h_y1), hb1, trivial⟩ ?_
    refine Run.retN (by kernel_rfl) ?_
    replace h := Option.some.inj h
    subst h
    exact ⟨[(.d t4 false)], by kernel_rfl, by kernel_rfl⟩


end Go.Sw
