/- Each function of the code computes the Lean function of the same number wherever that has a value; no other conditions. -/
import Derived.Test.YtcmbahhinnojaaaHb
namespace Go.Sw
open Go Go.Sw
set_option linter.unusedSimpArgs false
set_option linter.unusedVariables false

/-! ## f22 -/

noncomputable def c_22 : Code := body0 Go.Proofs.Try.f22

def fin22 (r : Int) : Ex → St → Prop := endK X0 [.tmp 2] [32] (.d t2 r)

def f22_l0_post (x4 : Int × Int × Int × Int × Int × Int × (List (Int × Int × Int × Int × Int)) × Int) : (Bool) → Ex → St → Prop
  | o, x, s => x = .out 0 ∧ s = ⟨[(3, (.d t4 o))], []⟩

def f22_l0_b (x4 : Int × Int × Int × Int × Int × Int × (List (Int × Int × Int × Int × Int)) × Int) (again : Bool × Int → Option (Bool)) : Bool × Int → Option (Bool)
  | (x2, x3) =>
    (bif (decide (x3 < (ofN (List.length x4.2.2.2.2.2.2.1)))) then
      (bif x2 then
        gd (0 ≤ x3) <|
        gd (x3 < ((List.length x4.2.2.2.2.2.2.1 : Nat) : Int)) <|
        (F47 (List.getD x4.2.2.2.2.2.2.1 (toN x3) ((0 : Int), (0 : Int), (0 : Int), (0 : Int), (0 : Int))).1 (List.getD x4.2.2.2.2.2.2.1 (toN x3) ((0 : Int), (0 : Int), (0 : Int), (0 : Int), (0 : Int))).2.1 (List.getD x4.2.2.2.2.2.2.1 (toN x3) ((0 : Int), (0 : Int), (0 : Int), (0 : Int), (0 : Int))).2.2.1 (List.getD x4.2.2.2.2.2.2.1 (toN x3) ((0 : Int), (0 : Int), (0 : Int), (0 : Int), (0 : Int))).2.2.2.1).bind fun y6 =>
        (bif y6 then
          (F48 (List.getD x4.2.2.2.2.2.2.1 (toN x3) ((0 : Int), (0 : Int), (0 : Int), (0 : Int), (0 : Int))).2.2.2.2 (max2i (wrapI .i64 ((wrapI .i64 (0 - x4.2.2.2.2.1)) - x4.2.2.2.2.2.1)) (-10000000 : Int))).bind fun y7 =>
          (bif y7 then
            again ((decide ((List.getD x4.2.2.2.2.2.2.1 (toN x3) ((0 : Int), (0 : Int), (0 : Int), (0 : Int), (0 : Int))).2.2.2.2 < x4.2.2.2.2.2.2.2)), (wrapI .i64 (x3 + (1 : Int))))
          else
            again (false, (wrapI .i64 (x3 + (1 : Int)))))
        else
          again (false, (wrapI .i64 (x3 + (1 : Int)))))
      else
        some x2)
    else
      some x2)

def f22_l0 (x4 : Int × Int × Int × Int × Int × Int × (List (Int × Int × Int × Int × Int)) × Int) : Nat → Bool × Int → Option (Bool) := loopF (f22_l0_b x4)

theorem f22_l0_ok (x4 : Int × Int × Int × Int × Int × Int × (List (Int × Int × Int × Int × Int)) × Int) (k : Nat) (x2 : Bool) (x3 : Int) {out : (Bool)} (h : f22_l0 x4 k (x2, x3) = some out) : Run Pg 81 (bk1 (sq2 (sq1 (sq2 (sq2 c_22))))) ⟨[(1, (.ptr 100 0)), (3, (.d t4 x2)), (4, (.d t2 x3))], [(100, (.box (.vcons (.d t23 x4) .vnil)))]⟩ (f22_l0_post x4 out) := by
  refine Run.loopN (by kernel_rfl) (fun m s => ∃ x2 x3, s = ⟨[(1, (.ptr 100 0)), (3, (.d t4 x2)), (4, (.d t2 x3))], [(100, (.box (.vcons (.d t23 x4) .vnil)))]⟩ ∧ f22_l0 x4 m (x2, x3) = some out) ?_ k ⟨x2, x3,  rfl, h⟩
  rintro m s ⟨x2, x3,  rfl, h⟩
  cases m with
  | zero => cases h
  | succ m =>
  replace h : f22_l0_b x4 (f22_l0 x4 m) (x2, x3) = some out := h
  unfold f22_l0_b at h
  refine Run.seqN (by kernel_rfl) ?_
  rcases bif_elim h with ⟨hb0, h⟩ | ⟨hb0, h⟩
  · refine Run.regN hX [(5, .b true)] 400 [1, 3, 4, 43] [100] ⟨[(1, (.ptr 100 0)), (3, (.d t4 x2)), (4, (.d t2 x3)), (43, (.d t4 x2))], [(100, (.box (.vcons (.d t23 x4) .vnil)))]⟩ [(decide (x3 < (ofN (List.length x4.2.2.2.2.2.2.1)))) = true] (by kernel_rfl) (by kernel_rfl) ⟨hb0, trivial⟩ ?_
    refine Run.condN x2 (by kernel_rfl) (fun hb => ?_) (fun hb => ?_)
    · replace h := bif_t h hb
      refine Run.skipN (by kernel_rfl) ?_
      show Run Pg 81 _ _ _
      refine Run.seqN (by kernel_rfl) ?_
      refine Run.blockN 1 (by kernel_rfl) ?_
      obtain ⟨g_0, h⟩ := gd_elim h
      obtain ⟨g_1, h⟩ := gd_elim h
      refine Run.regN hX [] 600 [1, 4, 5] [100, 605] ⟨[(1, (.ptr 100 0)), (4, (.d t2 x3)), (5, (.ptr 605 0))], [(100, (.box (.vcons (.d t23 x4) .vnil))), (605, (.box (.vcons (.d t55 (List.getD x4.2.2.2.2.2.2.1 (toN x3) ((0 : Int), (0 : Int), (0 : Int), (0 : Int), (0 : Int)))) .vnil)))]⟩ [(0 ≤ x3), (x3 < ((List.length x4.2.2.2.2.2.2.1 : Nat) : Int))] (by kernel_rfl) (by kernel_rfl) ⟨g_0, g_1, trivial⟩ ?_
      obtain ⟨y6, h_y6, h⟩ := bnd_elim h
      rcases bif_elim h with ⟨hb1, h⟩ | ⟨hb1, h⟩
      · obtain ⟨y7, h_y7, h⟩ := bnd_elim h
        rcases bif_elim h with ⟨hb3, h⟩ | ⟨hb3, h⟩
        · refine Run.regE hX [(8, .call (.d t4 y6)), (9, .b true), (19, .call (.d t4 y7)), (21, .b true)] 700 [1, 3, 4] [100] ⟨[(1, (.ptr 100 0)), (3, (.d t4 (decide ((List.getD x4.2.2.2.2.2.2.1 (toN x3) ((0 : Int), (0 : Int), (0 : Int), (0 : Int), (0 : Int))).2.2.2.2 < x4.2.2.2.2.2.2.2)))), (4, (.d t2 x3))], [(100, (.box (.vcons (.d t23 x4) .vnil)))]⟩ [CallPure Pg 47 [(.d t2 (List.getD x4.2.2.2.2.2.2.1 (toN x3) ((0 : Int), (0 : Int), (0 : Int), (0 : Int), (0 : Int))).1), (.d t2 (List.getD x4.2.2.2.2.2.2.1 (toN x3) ((0 : Int), (0 : Int), (0 : Int), (0 : Int), (0 : Int))).2.1), (.d t2 (List.getD x4.2.2.2.2.2.2.1 (toN x3) ((0 : Int), (0 : Int), (0 : Int), (0 : Int), (0 : Int))).2.2.1), (.d t2 (List.getD x4.2.2.2.2.2.2.1 (toN x3) ((0 : Int), (0 : Int), (0 : Int), (0 : Int), (0 : Int))).2.2.2.1)] (.d t4 y6), y6 = true, CallPure Pg 48 [(.d t2 (List.getD x4.2.2.2.2.2.2.1 (toN x3) ((0 : Int), (0 : Int), (0 : Int), (0 : Int), (0 : Int))).2.2.2.2), (.d t2 (max2i (wrapI .i64 ((wrapI .i64 (0 - x4.2.2.2.2.1)) - x4.2.2.2.2.2.1)) (-10000000 : Int)))] (.d t4 y7), y7 = true] (by kernel_rfl) ⟨(c47 h_y6), hb1, (c48 h_y7), hb3, trivial⟩ ?_
          show Run Pg 81 _ _ _
          refine Run.regE hX [] 500 [1, 3, 4] [100] ⟨[(1, (.ptr 100 0)), (3, (.d t4 (decide ((List.getD x4.2.2.2.2.2.2.1 (toN x3) ((0 : Int), (0 : Int), (0 : Int), (0 : Int), (0 : Int))).2.2.2.2 < x4.2.2.2.2.2.2.2)))), (4, (.d t2 (wrapI .i64 (x3 + (1 : Int)))))], [(100, (.box (.vcons (.d t23 x4) .vnil)))]⟩ [] (by kernel_rfl) trivial ?_
          exact ⟨m, Nat.lt_succ_self m, _, _, rfl, h⟩
        · refine Run.regE hX [(8, .call (.d t4 y6)), (9, .b true), (19, .call (.d t4 y7)), (21, .b false)] 700 [1, 3, 4] [100] ⟨[(1, (.ptr 100 0)), (3, (.d t4 false)), (4, (.d t2 x3))], [(100, (.box (.vcons (.d t23 x4) .vnil)))]⟩ [CallPure Pg 47 [(.d t2 (List.getD x4.2.2.2.2.2.2.1 (toN x3) ((0 : Int), (0 : Int), (0 : Int), (0 : Int), (0 : Int))).1), (.d t2 (List.getD x4.2.2.2.2.2.2.1 (toN x3) ((0 : Int), (0 : Int), (0 : Int), (0 : Int), (0 : Int))).2.1), (.d t2 (List.getD x4.2.2.2.2.2.2.1 (toN x3) ((0 : Int), (0 : Int), (0 : Int), (0 : Int), (0 : Int))).2.2.1), (.d t2 (List.getD x4.2.2.2.2.2.2.1 (toN x3) ((0 : Int), (0 : Int), (0 : Int), (0 : Int), (0 : Int))).2.2.2.1)] (.d t4 y6), y6 = true, CallPure Pg 48 [(.d t2 (List.getD x4.2.2.2.2.2.2.1 (toN x3) ((0 : Int), (0 : Int), (0 : Int), (0 : Int), (0 : Int))).2.2.2.2), (.d t2 (max2i (wrapI .i64 ((wrapI .i64 (0 - x4.2.2.2.2.1)) - x4.2.2.2.2.2.1)) (-10000000 : Int)))] (.d t4 y7), y7 = false] (by kernel_rfl) ⟨(c47 h_y6), hb1, (c48 h_y7), hb3, trivial⟩ ?_
          show Run Pg 81 _ _ _
          refine Run.regE hX [] 500 [1, 3, 4] [100] ⟨[(1, (.ptr 100 0)), (3, (.d t4 false)), (4, (.d t2 (wrapI .i64 (x3 + (1 : Int)))))], [(100, (.box (.vcons (.d t23 x4) .vnil)))]⟩ [] (by kernel_rfl) trivial ?_
          exact ⟨m, Nat.lt_succ_self m, _, _, rfl, h⟩
      · refine Run.regE hX [(8, .call (.d t4 y6)), (9, .b false)] 700 [1, 3, 4] [100] ⟨[(1, (.ptr 100 0)), (3, (.d t4 false)), (4, (.d t2 x3))], [(100, (.box (.vcons (.d t23 x4) .vnil)))]⟩ [CallPure Pg 47 [(.d t2 (List.getD x4.2.2.2.2.2.2.1 (toN x3) ((0 : Int), (0 : Int), (0 : Int), (0 : Int), (0 : Int))).1), (.d t2 (List.getD x4.2.2.2.2.2.2.1 (toN x3) ((0 : Int), (0 : Int), (0 : Int), (0 : Int), (0 : Int))).2.1), (.d t2 (List.getD x4.2.2.2.2.2.2.1 (toN x3) ((0 : Int), (0 : Int), (0 : Int), (0 : Int), (0 : Int))).2.2.1), (.d t2 (List.getD x4.2.2.2.2.2.2.1 (toN x3) ((0 : Int), (0 : Int), (0 : Int), (0 : Int), (0 : Int))).2.2.2.1)] (.d t4 y6), y6 = false] (by kernel_rfl) ⟨(c47 h_y6), hb1, trivial⟩ ?_
        show Run Pg 81 _ _ _
        refine Run.regE hX [] 500 [1, 3, 4] [100] ⟨[(1, (.ptr 100 0)), (3, (.d t4 false)), (4, (.d t2 (wrapI .i64 (x3 + (1 : Int)))))], [(100, (.box (.vcons (.d t23 x4) .vnil)))]⟩ [] (by kernel_rfl) trivial ?_
        exact ⟨m, Nat.lt_succ_self m, _, _, rfl, h⟩
    · replace h := bif_f h hb
      refine Run.keep (s' := ⟨[(3, (.d t4 x2))], []⟩) [3] [] (by kernel_rfl) ?_
      refine Run.exitN 0 (by kernel_rfl) ?_
      replace h := Option.some.inj h
      subst h
      exact ⟨rfl, by kernel_rfl⟩
  · refine Run.regN hX [(5, .b false)] 400 [1, 3, 4, 43] [100] ⟨[(1, (.ptr 100 0)), (3, (.d t4 x2)), (4, (.d t2 x3)), (43, (.d t4 false))], [(100, (.box (.vcons (.d t23 x4) .vnil)))]⟩ [(decide (x3 < (ofN (List.length x4.2.2.2.2.2.2.1)))) = false] (by kernel_rfl) (by kernel_rfl) ⟨hb0, trivial⟩ ?_
    refine Run.condN false (by kernel_rfl) (fun hb => (by cases hb)) (fun hb => ?_)
    refine Run.keep (s' := ⟨[(3, (.d t4 x2))], []⟩) [3] [] (by kernel_rfl) ?_
    refine Run.exitN 0 (by kernel_rfl) ?_
    replace h := Option.some.inj h
    subst h
    exact ⟨rfl, by kernel_rfl⟩

def f22_l1_post (x10 : Int × Int × Int × Int × Int × Int × (List (Int × Int × Int × Int × Int)) × Int) : (Bool) → Ex → St → Prop
  | o, x, s => x = .out 0 ∧ s = ⟨[(3, (.d t4 o))], []⟩

def f22_l1_b (x10 : Int × Int × Int × Int × Int × Int × (List (Int × Int × Int × Int × Int)) × Int) (again : Bool × Int → Option (Bool)) : Bool × Int → Option (Bool)
  | (x8, x9) =>
    (bif (decide (x9 < (ofN (List.length x10.2.2.2.2.2.2.1)))) then
      (bif x8 then
        gd (0 ≤ x9) <|
        gd (x9 < ((List.length x10.2.2.2.2.2.2.1 : Nat) : Int)) <|
        (F47 (List.getD x10.2.2.2.2.2.2.1 (toN x9) ((0 : Int), (0 : Int), (0 : Int), (0 : Int), (0 : Int))).1 (List.getD x10.2.2.2.2.2.2.1 (toN x9) ((0 : Int), (0 : Int), (0 : Int), (0 : Int), (0 : Int))).2.1 (List.getD x10.2.2.2.2.2.2.1 (toN x9) ((0 : Int), (0 : Int), (0 : Int), (0 : Int), (0 : Int))).2.2.1 (List.getD x10.2.2.2.2.2.2.1 (toN x9) ((0 : Int), (0 : Int), (0 : Int), (0 : Int), (0 : Int))).2.2.2.1).bind fun y12 =>
        (bif y12 then
          (F48 (List.getD x10.2.2.2.2.2.2.1 (toN x9) ((0 : Int), (0 : Int), (0 : Int), (0 : Int), (0 : Int))).2.2.2.2 (max2i (wrapI .i64 ((wrapI .i64 (0 - x10.2.2.2.2.1)) - x10.2.2.2.2.2.1)) (-10000000 : Int))).bind fun y13 =>
          (bif y13 then
            again ((decide ((List.getD x10.2.2.2.2.2.2.1 (toN x9) ((0 : Int), (0 : Int), (0 : Int), (0 : Int), (0 : Int))).2.2.2.2 < x10.2.2.2.2.2.2.2)), (wrapI .i64 (x9 + (1 : Int))))
          else
            again (false, (wrapI .i64 (x9 + (1 : Int)))))
        else
          again (false, (wrapI .i64 (x9 + (1 : Int)))))
      else
        some x8)
    else
      some x8)

def f22_l1 (x10 : Int × Int × Int × Int × Int × Int × (List (Int × Int × Int × Int × Int)) × Int) : Nat → Bool × Int → Option (Bool) := loopF (f22_l1_b x10)

theorem f22_l1_ok (x10 : Int × Int × Int × Int × Int × Int × (List (Int × Int × Int × Int × Int)) × Int) (k : Nat) (x8 : Bool) (x9 : Int) {out : (Bool)} (h : f22_l1 x10 k (x8, x9) = some out) : Run Pg 81 (bk1 (sq2 (sq1 (sq2 (sq2 c_22))))) ⟨[(1, (.ptr 100 0)), (3, (.d t4 x8)), (4, (.d t2 x9))], [(100, (.box (.vcons (.d t23 x10) .vnil)))]⟩ (f22_l1_post x10 out) := by
  refine Run.loopN (by kernel_rfl) (fun m s => ∃ x8 x9, s = ⟨[(1, (.ptr 100 0)), (3, (.d t4 x8)), (4, (.d t2 x9))], [(100, (.box (.vcons (.d t23 x10) .vnil)))]⟩ ∧ f22_l1 x10 m (x8, x9) = some out) ?_ k ⟨x8, x9,  rfl, h⟩
  rintro m s ⟨x8, x9,  rfl, h⟩
  cases m with
  | zero => cases h
  | succ m =>
  replace h : f22_l1_b x10 (f22_l1 x10 m) (x8, x9) = some out := h
  unfold f22_l1_b at h
  refine Run.seqN (by kernel_rfl) ?_
  rcases bif_elim h with ⟨hb0, h⟩ | ⟨hb0, h⟩
  · refine Run.regN hX [(5, .b true)] 400 [1, 3, 4, 43] [100] ⟨[(1, (.ptr 100 0)), (3, (.d t4 x8)), (4, (.d t2 x9)), (43, (.d t4 x8))], [(100, (.box (.vcons (.d t23 x10) .vnil)))]⟩ [(decide (x9 < (ofN (List.length x10.2.2.2.2.2.2.1)))) = true] (by kernel_rfl) (by kernel_rfl) ⟨hb0, trivial⟩ ?_
    refine Run.condN x8 (by kernel_rfl) (fun hb => ?_) (fun hb => ?_)
    · replace h := bif_t h hb
      refine Run.skipN (by kernel_rfl) ?_
      show Run Pg 81 _ _ _
      refine Run.seqN (by kernel_rfl) ?_
      refine Run.blockN 1 (by kernel_rfl) ?_
      obtain ⟨g_0, h⟩ := gd_elim h
      obtain ⟨g_1, h⟩ := gd_elim h
      refine Run.regN hX [] 600 [1, 4, 5] [100, 605] ⟨[(1, (.ptr 100 0)), (4, (.d t2 x9)), (5, (.ptr 605 0))], [(100, (.box (.vcons (.d t23 x10) .vnil))), (605, (.box (.vcons (.d t55 (List.getD x10.2.2.2.2.2.2.1 (toN x9) ((0 : Int), (0 : Int), (0 : Int), (0 : Int), (0 : Int)))) .vnil)))]⟩ [(0 ≤ x9), (x9 < ((List.length x10.2.2.2.2.2.2.1 : Nat) : Int))] (by kernel_rfl) (by kernel_rfl) ⟨g_0, g_1, trivial⟩ ?_
      obtain ⟨y12, h_y12, h⟩ := bnd_elim h
      rcases bif_elim h with ⟨hb1, h⟩ | ⟨hb1, h⟩
      · obtain ⟨y13, h_y13, h⟩ := bnd_elim h
        rcases bif_elim h with ⟨hb3, h⟩ | ⟨hb3, h⟩
        · refine Run.regE hX [(8, .call (.d t4 y12)), (9, .b true), (19, .call (.d t4 y13)), (21, .b true)] 700 [1, 3, 4] [100] ⟨[(1, (.ptr 100 0)), (3, (.d t4 (decide ((List.getD x10.2.2.2.2.2.2.1 (toN x9) ((0 : Int), (0 : Int), (0 : Int), (0 : Int), (0 : Int))).2.2.2.2 < x10.2.2.2.2.2.2.2)))), (4, (.d t2 x9))], [(100, (.box (.vcons (.d t23 x10) .vnil)))]⟩ [CallPure Pg 47 [(.d t2 (List.getD x10.2.2.2.2.2.2.1 (toN x9) ((0 : Int), (0 : Int), (0 : Int), (0 : Int), (0 : Int))).1), (.d t2 (List.getD x10.2.2.2.2.2.2.1 (toN x9) ((0 : Int), (0 : Int), (0 : Int), (0 : Int), (0 : Int))).2.1), (.d t2 (List.getD x10.2.2.2.2.2.2.1 (toN x9) ((0 : Int), (0 : Int), (0 : Int), (0 : Int), (0 : Int))).2.2.1), (.d t2 (List.getD x10.2.2.2.2.2.2.1 (toN x9) ((0 : Int), (0 : Int), (0 : Int), (0 : Int), (0 : Int))).2.2.2.1)] (.d t4 y12), y12 = true, CallPure Pg 48 [(.d t2 (List.getD x10.2.2.2.2.2.2.1 (toN x9) ((0 : Int), (0 : Int), (0 : Int), (0 : Int), (0 : Int))).2.2.2.2), (.d t2 (max2i (wrapI .i64 ((wrapI .i64 (0 - x10.2.2.2.2.1)) - x10.2.2.2.2.2.1)) (-10000000 : Int)))] (.d t4 y13), y13 = true] (by kernel_rfl) ⟨(c47 h_y12), hb1, (c48 h_y13), hb3, trivial⟩ ?_
          show Run Pg 81 _ _ _
          refine Run.regE hX [] 500 [1, 3, 4] [100] ⟨[(1, (.ptr 100 0)), (3, (.d t4 (decide ((List.getD x10.2.2.2.2.2.2.1 (toN x9) ((0 : Int), (0 : Int), (0 : Int), (0 : Int), (0 : Int))).2.2.2.2 < x10.2.2.2.2.2.2.2)))), (4, (.d t2 (wrapI .i64 (x9 + (1 : Int)))))], [(100, (.box (.vcons (.d t23 x10) .vnil)))]⟩ [] (by kernel_rfl) trivial ?_
          exact ⟨m, Nat.lt_succ_self m, _, _, rfl, h⟩
        · refine Run.regE hX [(8, .call (.d t4 y12)), (9, .b true), (19, .call (.d t4 y13)), (21, .b false)] 700 [1, 3, 4] [100] ⟨[(1, (.ptr 100 0)), (3, (.d t4 false)), (4, (.d t2 x9))], [(100, (.box (.vcons (.d t23 x10) .vnil)))]⟩ [CallPure Pg 47 [(.d t2 (List.getD x10.2.2.2.2.2.2.1 (toN x9) ((0 : Int), (0 : Int), (0 : Int), (0 : Int), (0 : Int))).1), (.d t2 (List.getD x10.2.2.2.2.2.2.1 (toN x9) ((0 : Int), (0 : Int), (0 : Int), (0 : Int), (0 : Int))).2.1), (.d t2 (List.getD x10.2.2.2.2.2.2.1 (toN x9) ((0 : Int), (0 : Int), (0 : Int), (0 : Int), (0 : Int))).2.2.1), (.d t2 (List.getD x10.2.2.2.2.2.2.1 (toN x9) ((0 : Int), (0 : Int), (0 : Int), (0 : Int), (0 : Int))).2.2.2.1)] (.d t4 y12), y12 = true, CallPure Pg 48 [(.d t2 (List.getD x10.2.2.2.2.2.2.1 (toN x9) ((0 : Int), (0 : Int), (0 : Int), (0 : Int), (0 : Int))).2.2.2.2), (.d t2 (max2i (wrapI .i64 ((wrapI .i64 (0 - x10.2.2.2.2.1)) - x10.2.2.2.2.2.1)) (-10000000 : Int)))] (.d t4 y13), y13 = false] (by kernel_rfl) ⟨(c47 h_y12), hb1, (c48 h_y13), hb3, trivial⟩ ?_
          show Run Pg 81 _ _ _
          refine Run.regE hX [] 500 [1, 3, 4] [100] ⟨[(1, (.ptr 100 0)), (3, (.d t4 false)), (4, (.d t2 (wrapI .i64 (x9 + (1 : Int)))))], [(100, (.box (.vcons (.d t23 x10) .vnil)))]⟩ [] (by kernel_rfl) trivial ?_
          exact ⟨m, Nat.lt_succ_self m, _, _, rfl, h⟩
      · refine Run.regE hX [(8, .call (.d t4 y12)), (9, .b false)] 700 [1, 3, 4] [100] ⟨[(1, (.ptr 100 0)), (3, (.d t4 false)), (4, (.d t2 x9))], [(100, (.box (.vcons (.d t23 x10) .vnil)))]⟩ [CallPure Pg 47 [(.d t2 (List.getD x10.2.2.2.2.2.2.1 (toN x9) ((0 : Int), (0 : Int), (0 : Int), (0 : Int), (0 : Int))).1), (.d t2 (List.getD x10.2.2.2.2.2.2.1 (toN x9) ((0 : Int), (0 : Int), (0 : Int), (0 : Int), (0 : Int))).2.1), (.d t2 (List.getD x10.2.2.2.2.2.2.1 (toN x9) ((0 : Int), (0 : Int), (0 : Int), (0 : Int), (0 : Int))).2.2.1), (.d t2 (List.getD x10.2.2.2.2.2.2.1 (toN x9) ((0 : Int), (0 : Int), (0 : Int), (0 : Int), (0 : Int))).2.2.2.1)] (.d t4 y12), y12 = false] (by kernel_rfl) ⟨(c47 h_y12), hb1, trivial⟩ ?_
        show Run Pg 81 _ _ _
        refine Run.regE hX [] 500 [1, 3, 4] [100] ⟨[(1, (.ptr 100 0)), (3, (.d t4 false)), (4, (.d t2 (wrapI .i64 (x9 + (1 : Int)))))], [(100, (.box (.vcons (.d t23 x10) .vnil)))]⟩ [] (by kernel_rfl) trivial ?_
        exact ⟨m, Nat.lt_succ_self m, _, _, rfl, h⟩
    · replace h := bif_f h hb
      refine Run.keep (s' := ⟨[(3, (.d t4 x8))], []⟩) [3] [] (by kernel_rfl) ?_
      refine Run.exitN 0 (by kernel_rfl) ?_
      replace h := Option.some.inj h
      subst h
      exact ⟨rfl, by kernel_rfl⟩
  · refine Run.regN hX [(5, .b false)] 400 [1, 3, 4, 43] [100] ⟨[(1, (.ptr 100 0)), (3, (.d t4 x8)), (4, (.d t2 x9)), (43, (.d t4 false))], [(100, (.box (.vcons (.d t23 x10) .vnil)))]⟩ [(decide (x9 < (ofN (List.length x10.2.2.2.2.2.2.1)))) = false] (by kernel_rfl) (by kernel_rfl) ⟨hb0, trivial⟩ ?_
    refine Run.condN false (by kernel_rfl) (fun hb => (by cases hb)) (fun hb => ?_)
    refine Run.keep (s' := ⟨[(3, (.d t4 x8))], []⟩) [3] [] (by kernel_rfl) ?_
    refine Run.exitN 0 (by kernel_rfl) ?_
    replace h := Option.some.inj h
    subst h
    exact ⟨rfl, by kernel_rfl⟩

def f22_l2_post (x16 : Int × Int × Int × Int × Int × Int × (List (Int × Int × Int × Int × Int)) × Int) : (Bool) → Ex → St → Prop
  | o, x, s => x = .out 0 ∧ s = ⟨[(3, (.d t4 o))], []⟩

def f22_l2_b (x16 : Int × Int × Int × Int × Int × Int × (List (Int × Int × Int × Int × Int)) × Int) (again : Bool × Int → Option (Bool)) : Bool × Int → Option (Bool)
  | (x14, x15) =>
    (bif (decide (x15 < (ofN (List.length x16.2.2.2.2.2.2.1)))) then
      (bif x14 then
        gd (0 ≤ x15) <|
        gd (x15 < ((List.length x16.2.2.2.2.2.2.1 : Nat) : Int)) <|
        (F47 (List.getD x16.2.2.2.2.2.2.1 (toN x15) ((0 : Int), (0 : Int), (0 : Int), (0 : Int), (0 : Int))).1 (List.getD x16.2.2.2.2.2.2.1 (toN x15) ((0 : Int), (0 : Int), (0 : Int), (0 : Int), (0 : Int))).2.1 (List.getD x16.2.2.2.2.2.2.1 (toN x15) ((0 : Int), (0 : Int), (0 : Int), (0 : Int), (0 : Int))).2.2.1 (List.getD x16.2.2.2.2.2.2.1 (toN x15) ((0 : Int), (0 : Int), (0 : Int), (0 : Int), (0 : Int))).2.2.2.1).bind fun y18 =>
        (bif y18 then
          (F48 (List.getD x16.2.2.2.2.2.2.1 (toN x15) ((0 : Int), (0 : Int), (0 : Int), (0 : Int), (0 : Int))).2.2.2.2 (max2i (wrapI .i64 ((wrapI .i64 (0 - x16.2.2.2.2.1)) - x16.2.2.2.2.2.1)) (-10000000 : Int))).bind fun y19 =>
          (bif y19 then
            again ((decide ((List.getD x16.2.2.2.2.2.2.1 (toN x15) ((0 : Int), (0 : Int), (0 : Int), (0 : Int), (0 : Int))).2.2.2.2 < x16.2.2.2.2.2.2.2)), (wrapI .i64 (x15 + (1 : Int))))
          else
            again (false, (wrapI .i64 (x15 + (1 : Int)))))
        else
          again (false, (wrapI .i64 (x15 + (1 : Int)))))
      else
        some x14)
    else
      some x14)

def f22_l2 (x16 : Int × Int × Int × Int × Int × Int × (List (Int × Int × Int × Int × Int)) × Int) : Nat → Bool × Int → Option (Bool) := loopF (f22_l2_b x16)

theorem f22_l2_ok (x16 : Int × Int × Int × Int × Int × Int × (List (Int × Int × Int × Int × Int)) × Int) (k : Nat) (x14 : Bool) (x15 : Int) {out : (Bool)} (h : f22_l2 x16 k (x14, x15) = some out) : Run Pg 81 (bk1 (sq2 (sq1 (sq2 (sq2 c_22))))) ⟨[(1, (.ptr 100 0)), (3, (.d t4 x14)), (4, (.d t2 x15))], [(100, (.box (.vcons (.d t23 x16) .vnil)))]⟩ (f22_l2_post x16 out) := by
  refine Run.loopN (by kernel_rfl) (fun m s => ∃ x14 x15, s = ⟨[(1, (.ptr 100 0)), (3, (.d t4 x14)), (4, (.d t2 x15))], [(100, (.box (.vcons (.d t23 x16) .vnil)))]⟩ ∧ f22_l2 x16 m (x14, x15) = some out) ?_ k ⟨x14, x15,  rfl, h⟩
  rintro m s ⟨x14, x15,  rfl, h⟩
  cases m with
  | zero => cases h
  | succ m =>
  replace h : f22_l2_b x16 (f22_l2 x16 m) (x14, x15) = some out := h
  unfold f22_l2_b at h
  refine Run.seqN (by kernel_rfl) ?_
  rcases bif_elim h with ⟨hb0, h⟩ | ⟨hb0, h⟩
  · refine Run.regN hX [(5, .b true)] 400 [1, 3, 4, 43] [100] ⟨[(1, (.ptr 100 0)), (3, (.d t4 x14)), (4, (.d t2 x15)), (43, (.d t4 x14))], [(100, (.box (.vcons (.d t23 x16) .vnil)))]⟩ [(decide (x15 < (ofN (List.length x16.2.2.2.2.2.2.1)))) = true] (by kernel_rfl) (by kernel_rfl) ⟨hb0, trivial⟩ ?_
    refine Run.condN x14 (by kernel_rfl) (fun hb => ?_) (fun hb => ?_)
    · replace h := bif_t h hb
      refine Run.skipN (by kernel_rfl) ?_
      show Run Pg 81 _ _ _
      refine Run.seqN (by kernel_rfl) ?_
      refine Run.blockN 1 (by kernel_rfl) ?_
      obtain ⟨g_0, h⟩ := gd_elim h
      obtain ⟨g_1, h⟩ := gd_elim h
      refine Run.regN hX [] 600 [1, 4, 5] [100, 605] ⟨[(1, (.ptr 100 0)), (4, (.d t2 x15)), (5, (.ptr 605 0))], [(100, (.box (.vcons (.d t23 x16) .vnil))), (605, (.box (.vcons (.d t55 (List.getD x16.2.2.2.2.2.2.1 (toN x15) ((0 : Int), (0 : Int), (0 : Int), (0 : Int), (0 : Int)))) .vnil)))]⟩ [(0 ≤ x15), (x15 < ((List.length x16.2.2.2.2.2.2.1 : Nat) : Int))] (by kernel_rfl) (by kernel_rfl) ⟨g_0, g_1, trivial⟩ ?_
      obtain ⟨y18, h_y18, h⟩ := bnd_elim h
      rcases bif_elim h with ⟨hb1, h⟩ | ⟨hb1, h⟩
      · obtain ⟨y19, h_y19, h⟩ := bnd_elim h
        rcases bif_elim h with ⟨hb3, h⟩ | ⟨hb3, h⟩
        · refine Run.regE hX [(8, .call (.d t4 y18)), (9, .b true), (19, .call (.d t4 y19)), (21, .b true)] 700 [1, 3, 4] [100] ⟨[(1, (.ptr 100 0)), (3, (.d t4 (decide ((List.getD x16.2.2.2.2.2.2.1 (toN x15) ((0 : Int), (0 : Int), (0 : Int), (0 : Int), (0 : Int))).2.2.2.2 < x16.2.2.2.2.2.2.2)))), (4, (.d t2 x15))], [(100, (.box (.vcons (.d t23 x16) .vnil)))]⟩ [CallPure Pg 47 [(.d t2 (List.getD x16.2.2.2.2.2.2.1 (toN x15) ((0 : Int), (0 : Int), (0 : Int), (0 : Int), (0 : Int))).1), (.d t2 (List.getD x16.2.2.2.2.2.2.1 (toN x15) ((0 : Int), (0 : Int), (0 : Int), (0 : Int), (0 : Int))).2.1), (.d t2 (List.getD x16.2.2.2.2.2.2.1 (toN x15) ((0 : Int), (0 : Int), (0 : Int), (0 : Int), (0 : Int))).2.2.1), (.d t2 (List.getD x16.2.2.2.2.2.2.1 (toN x15) ((0 : Int), (0 : Int), (0 : Int), (0 : Int), (0 : Int))).2.2.2.1)] (.d t4 y18), y18 = true, CallPure Pg 48 [(.d t2 (List.getD x16.2.2.2.2.2.2.1 (toN x15) ((0 : Int), (0 : Int), (0 : Int), (0 : Int), (0 : Int))).2.2.2.2), (.d t2 (max2i (wrapI .i64 ((wrapI .i64 (0 - x16.2.2.2.2.1)) - x16.2.2.2.2.2.1)) (-10000000 : Int)))] (.d t4 y19), y19 = true] (by kernel_rfl) ⟨(c47 h_y18), hb1, (c48 h_y19), hb3, trivial⟩ ?_
          show Run Pg 81 _ _ _
          refine Run.regE hX [] 500 [1, 3, 4] [100] ⟨[(1, (.ptr 100 0)), (3, (.d t4 (decide ((List.getD x16.2.2.2.2.2.2.1 (toN x15) ((0 : Int), (0 : Int), (0 : Int), (0 : Int), (0 : Int))).2.2.2.2 < x16.2.2.2.2.2.2.2)))), (4, (.d t2 (wrapI .i64 (x15 + (1 : Int)))))], [(100, (.box (.vcons (.d t23 x16) .vnil)))]⟩ [] (by kernel_rfl) trivial ?_
          exact ⟨m, Nat.lt_succ_self m, _, _, rfl, h⟩
        · refine Run.regE hX [(8, .call (.d t4 y18)), (9, .b true), (19, .call (.d t4 y19)), (21, .b false)] 700 [1, 3, 4] [100] ⟨[(1, (.ptr 100 0)), (3, (.d t4 false)), (4, (.d t2 x15))], [(100, (.box (.vcons (.d t23 x16) .vnil)))]⟩ [CallPure Pg 47 [(.d t2 (List.getD x16.2.2.2.2.2.2.1 (toN x15) ((0 : Int), (0 : Int), (0 : Int), (0 : Int), (0 : Int))).1), (.d t2 (List.getD x16.2.2.2.2.2.2.1 (toN x15) ((0 : Int), (0 : Int), (0 : Int), (0 : Int), (0 : Int))).2.1), (.d t2 (List.getD x16.2.2.2.2.2.2.1 (toN x15) ((0 : Int), (0 : Int), (0 : Int), (0 : Int), (0 : Int))).2.2.1), (.d t2 (List.getD x16.2.2.2.2.2.2.1 (toN x15) ((0 : Int), (0 : Int), (0 : Int), (0 : Int), (0 : Int))).2.2.2.1)] (.d t4 y18), y18 = true, CallPure Pg 48 [(.d t2 (List.getD x16.2.2.2.2.2.2.1 (toN x15) ((0 : Int), (0 : Int), (0 : Int), (0 : Int), (0 : Int))).2.2.2.2), (.d t2 (max2i (wrapI .i64 ((wrapI .i64 (0 - x16.2.2.2.2.1)) - x16.2.2.2.2.2.1)) (-10000000 : Int)))] (.d t4 y19), y19 = false] (by kernel_rfl) ⟨(c47 h_y18), hb1, (c48 h_y19), hb3, trivial⟩ ?_
          show Run Pg 81 _ _ _
          refine Run.regE hX [] 500 [1, 3, 4] [100] ⟨[(1, (.ptr 100 0)), (3, (.d t4 false)), (4, (.d t2 (wrapI .i64 (x15 + (1 : Int)))))], [(100, (.box (.vcons (.d t23 x16) .vnil)))]⟩ [] (by kernel_rfl) trivial ?_
          exact ⟨m, Nat.lt_succ_self m, _, _, rfl, h⟩
      · refine Run.regE hX [(8, .call (.d t4 y18)), (9, .b false)] 700 [1, 3, 4] [100] ⟨[(1, (.ptr 100 0)), (3, (.d t4 false)), (4, (.d t2 x15))], [(100, (.box (.vcons (.d t23 x16) .vnil)))]⟩ [CallPure Pg 47 [(.d t2 (List.getD x16.2.2.2.2.2.2.1 (toN x15) ((0 : Int), (0 : Int), (0 : Int), (0 : Int), (0 : Int))).1), (.d t2 (List.getD x16.2.2.2.2.2.2.1 (toN x15) ((0 : Int), (0 : Int), (0 : Int), (0 : Int), (0 : Int))).2.1), (.d t2 (List.getD x16.2.2.2.2.2.2.1 (toN x15) ((0 : Int), (0 : Int), (0 : Int), (0 : Int), (0 : Int))).2.2.1), (.d t2 (List.getD x16.2.2.2.2.2.2.1 (toN x15) ((0 : Int), (0 : Int), (0 : Int), (0 : Int), (0 : Int))).2.2.2.1)] (.d t4 y18), y18 = false] (by kernel_rfl) ⟨(c47 h_y18), hb1, trivial⟩ ?_
        show Run Pg 81 _ _ _
        refine Run.regE hX [] 500 [1, 3, 4] [100] ⟨[(1, (.ptr 100 0)), (3, (.d t4 false)), (4, (.d t2 (wrapI .i64 (x15 + (1 : Int)))))], [(100, (.box (.vcons (.d t23 x16) .vnil)))]⟩ [] (by kernel_rfl) trivial ?_
        exact ⟨m, Nat.lt_succ_self m, _, _, rfl, h⟩
    · replace h := bif_f h hb
      refine Run.keep (s' := ⟨[(3, (.d t4 x14))], []⟩) [3] [] (by kernel_rfl) ?_
      refine Run.exitN 0 (by kernel_rfl) ?_
      replace h := Option.some.inj h
      subst h
      exact ⟨rfl, by kernel_rfl⟩
  · refine Run.regN hX [(5, .b false)] 400 [1, 3, 4, 43] [100] ⟨[(1, (.ptr 100 0)), (3, (.d t4 x14)), (4, (.d t2 x15)), (43, (.d t4 false))], [(100, (.box (.vcons (.d t23 x16) .vnil)))]⟩ [(decide (x15 < (ofN (List.length x16.2.2.2.2.2.2.1)))) = false] (by kernel_rfl) (by kernel_rfl) ⟨hb0, trivial⟩ ?_
    refine Run.condN false (by kernel_rfl) (fun hb => (by cases hb)) (fun hb => ?_)
    refine Run.keep (s' := ⟨[(3, (.d t4 x14))], []⟩) [3] [] (by kernel_rfl) ?_
    refine Run.exitN 0 (by kernel_rfl) ?_
    replace h := Option.some.inj h
    subst h
    exact ⟨rfl, by kernel_rfl⟩

def f22_l3_post (x22 : Int × Int × Int × Int × Int × Int × (List (Int × Int × Int × Int × Int)) × Int) : (Bool) → Ex → St → Prop
  | o, x, s => x = .out 0 ∧ s = ⟨[(3, (.d t4 o))], []⟩

def f22_l3_b (x22 : Int × Int × Int × Int × Int × Int × (List (Int × Int × Int × Int × Int)) × Int) (again : Bool × Int → Option (Bool)) : Bool × Int → Option (Bool)
  | (x20, x21) =>
    (bif (decide (x21 < (ofN (List.length x22.2.2.2.2.2.2.1)))) then
      (bif x20 then
        gd (0 ≤ x21) <|
        gd (x21 < ((List.length x22.2.2.2.2.2.2.1 : Nat) : Int)) <|
        (F47 (List.getD x22.2.2.2.2.2.2.1 (toN x21) ((0 : Int), (0 : Int), (0 : Int), (0 : Int), (0 : Int))).1 (List.getD x22.2.2.2.2.2.2.1 (toN x21) ((0 : Int), (0 : Int), (0 : Int), (0 : Int), (0 : Int))).2.1 (List.getD x22.2.2.2.2.2.2.1 (toN x21) ((0 : Int), (0 : Int), (0 : Int), (0 : Int), (0 : Int))).2.2.1 (List.getD x22.2.2.2.2.2.2.1 (toN x21) ((0 : Int), (0 : Int), (0 : Int), (0 : Int), (0 : Int))).2.2.2.1).bind fun y24 =>
        (bif y24 then
          (F48 (List.getD x22.2.2.2.2.2.2.1 (toN x21) ((0 : Int), (0 : Int), (0 : Int), (0 : Int), (0 : Int))).2.2.2.2 (max2i (wrapI .i64 ((wrapI .i64 (0 - x22.2.2.2.2.1)) - x22.2.2.2.2.2.1)) (-10000000 : Int))).bind fun y25 =>
          (bif y25 then
            again ((decide ((List.getD x22.2.2.2.2.2.2.1 (toN x21) ((0 : Int), (0 : Int), (0 : Int), (0 : Int), (0 : Int))).2.2.2.2 < x22.2.2.2.2.2.2.2)), (wrapI .i64 (x21 + (1 : Int))))
          else
            again (false, (wrapI .i64 (x21 + (1 : Int)))))
        else
          again (false, (wrapI .i64 (x21 + (1 : Int)))))
      else
        some x20)
    else
      some x20)

def f22_l3 (x22 : Int × Int × Int × Int × Int × Int × (List (Int × Int × Int × Int × Int)) × Int) : Nat → Bool × Int → Option (Bool) := loopF (f22_l3_b x22)

theorem f22_l3_ok (x22 : Int × Int × Int × Int × Int × Int × (List (Int × Int × Int × Int × Int)) × Int) (k : Nat) (x20 : Bool) (x21 : Int) {out : (Bool)} (h : f22_l3 x22 k (x20, x21) = some out) : Run Pg 81 (bk1 (sq2 (sq1 (sq2 (sq2 c_22))))) ⟨[(1, (.ptr 100 0)), (3, (.d t4 x20)), (4, (.d t2 x21))], [(100, (.box (.vcons (.d t23 x22) .vnil)))]⟩ (f22_l3_post x22 out) := by
  refine Run.loopN (by kernel_rfl) (fun m s => ∃ x20 x21, s = ⟨[(1, (.ptr 100 0)), (3, (.d t4 x20)), (4, (.d t2 x21))], [(100, (.box (.vcons (.d t23 x22) .vnil)))]⟩ ∧ f22_l3 x22 m (x20, x21) = some out) ?_ k ⟨x20, x21,  rfl, h⟩
  rintro m s ⟨x20, x21,  rfl, h⟩
  cases m with
  | zero => cases h
  | succ m =>
  replace h : f22_l3_b x22 (f22_l3 x22 m) (x20, x21) = some out := h
  unfold f22_l3_b at h
  refine Run.seqN (by kernel_rfl) ?_
  rcases bif_elim h with ⟨hb0, h⟩ | ⟨hb0, h⟩
  · refine Run.regN hX [(5, .b true)] 400 [1, 3, 4, 43] [100] ⟨[(1, (.ptr 100 0)), (3, (.d t4 x20)), (4, (.d t2 x21)), (43, (.d t4 x20))], [(100, (.box (.vcons (.d t23 x22) .vnil)))]⟩ [(decide (x21 < (ofN (List.length x22.2.2.2.2.2.2.1)))) = true] (by kernel_rfl) (by kernel_rfl) ⟨hb0, trivial⟩ ?_
    refine Run.condN x20 (by kernel_rfl) (fun hb => ?_) (fun hb => ?_)
    · replace h := bif_t h hb
      refine Run.skipN (by kernel_rfl) ?_
      show Run Pg 81 _ _ _
      refine Run.seqN (by kernel_rfl) ?_
      refine Run.blockN 1 (by kernel_rfl) ?_
      obtain ⟨g_0, h⟩ := gd_elim h
      obtain ⟨g_1, h⟩ := gd_elim h
      refine Run.regN hX [] 600 [1, 4, 5] [100, 605] ⟨[(1, (.ptr 100 0)), (4, (.d t2 x21)), (5, (.ptr 605 0))], [(100, (.box (.vcons (.d t23 x22) .vnil))), (605, (.box (.vcons (.d t55 (List.getD x22.2.2.2.2.2.2.1 (toN x21) ((0 : Int), (0 : Int), (0 : Int), (0 : Int), (0 : Int)))) .vnil)))]⟩ [(0 ≤ x21), (x21 < ((List.length x22.2.2.2.2.2.2.1 : Nat) : Int))] (by kernel_rfl) (by kernel_rfl) ⟨g_0, g_1, trivial⟩ ?_
      obtain ⟨y24, h_y24, h⟩ := bnd_elim h
      rcases bif_elim h with ⟨hb1, h⟩ | ⟨hb1, h⟩
      · obtain ⟨y25, h_y25, h⟩ := bnd_elim h
        rcases bif_elim h with ⟨hb3, h⟩ | ⟨hb3, h⟩
        · refine Run.regE hX [(8, .call (.d t4 y24)), (9, .b true), (19, .call (.d t4 y25)), (21, .b true)] 700 [1, 3, 4] [100] ⟨[(1, (.ptr 100 0)), (3, (.d t4 (decide ((List.getD x22.2.2.2.2.2.2.1 (toN x21) ((0 : Int), (0 : Int), (0 : Int), (0 : Int), (0 : Int))).2.2.2.2 < x22.2.2.2.2.2.2.2)))), (4, (.d t2 x21))], [(100, (.box (.vcons (.d t23 x22) .vnil)))]⟩ [CallPure Pg 47 [(.d t2 (List.getD x22.2.2.2.2.2.2.1 (toN x21) ((0 : Int), (0 : Int), (0 : Int), (0 : Int), (0 : Int))).1), (.d t2 (List.getD x22.2.2.2.2.2.2.1 (toN x21) ((0 : Int), (0 : Int), (0 : Int), (0 : Int), (0 : Int))).2.1), (.d t2 (List.getD x22.2.2.2.2.2.2.1 (toN x21) ((0 : Int), (0 : Int), (0 : Int), (0 : Int), (0 : Int))).2.2.1), (.d t2 (List.getD x22.2.2.2.2.2.2.1 (toN x21) ((0 : Int), (0 : Int), (0 : Int), (0 : Int), (0 : Int))).2.2.2.1)] (.d t4 y24), y24 = true, CallPure Pg 48 [(.d t2 (List.getD x22.2.2.2.2.2.2.1 (toN x21) ((0 : Int), (0 : Int), (0 : Int), (0 : Int), (0 : Int))).2.2.2.2), (.d t2 (max2i (wrapI .i64 ((wrapI .i64 (0 - x22.2.2.2.2.1)) - x22.2.2.2.2.2.1)) (-10000000 : Int)))] (.d t4 y25), y25 = true] (by kernel_rfl) ⟨(c47 h_y24), hb1, (c48 h_y25), hb3, trivial⟩ ?_
          show Run Pg 81 _ _ _
          refine Run.regE hX [] 500 [1, 3, 4] [100] ⟨[(1, (.ptr 100 0)), (3, (.d t4 (decide ((List.getD x22.2.2.2.2.2.2.1 (toN x21) ((0 : Int), (0 : Int), (0 : Int), (0 : Int), (0 : Int))).2.2.2.2 < x22.2.2.2.2.2.2.2)))), (4, (.d t2 (wrapI .i64 (x21 + (1 : Int)))))], [(100, (.box (.vcons (.d t23 x22) .vnil)))]⟩ [] (by kernel_rfl) trivial ?_
          exact ⟨m, Nat.lt_succ_self m, _, _, rfl, h⟩
        · refine Run.regE hX [(8, .call (.d t4 y24)), (9, .b true), (19, .call (.d t4 y25)), (21, .b false)] 700 [1, 3, 4] [100] ⟨[(1, (.ptr 100 0)), (3, (.d t4 false)), (4, (.d t2 x21))], [(100, (.box (.vcons (.d t23 x22) .vnil)))]⟩ [CallPure Pg 47 [(.d t2 (List.getD x22.2.2.2.2.2.2.1 (toN x21) ((0 : Int), (0 : Int), (0 : Int), (0 : Int), (0 : Int))).1), (.d t2 (List.getD x22.2.2.2.2.2.2.1 (toN x21) ((0 : Int), (0 : Int), (0 : Int), (0 : Int), (0 : Int))).2.1), (.d t2 (List.getD x22.2.2.2.2.2.2.1 (toN x21) ((0 : Int), (0 : Int), (0 : Int), (0 : Int), (0 : Int))).2.2.1), (.d t2 (List.getD x22.2.2.2.2.2.2.1 (toN x21) ((0 : Int), (0 : Int), (0 : Int), (0 : Int), (0 : Int))).2.2.2.1)] (.d t4 y24), y24 = true, CallPure Pg 48 [(.d t2 (List.getD x22.2.2.2.2.2.2.1 (toN x21) ((0 : Int), (0 : Int), (0 : Int), (0 : Int), (0 : Int))).2.2.2.2), (.d t2 (max2i (wrapI .i64 ((wrapI .i64 (0 - x22.2.2.2.2.1)) - x22.2.2.2.2.2.1)) (-10000000 : Int)))] (.d t4 y25), y25 = false] (by kernel_rfl) ⟨(c47 h_y24), hb1, (c48 h_y25), hb3, trivial⟩ ?_
          show Run Pg 81 _ _ _
          refine Run.regE hX [] 500 [1, 3, 4] [100] ⟨[(1, (.ptr 100 0)), (3, (.d t4 false)), (4, (.d t2 (wrapI .i64 (x21 + (1 : Int)))))], [(100, (.box (.vcons (.d t23 x22) .vnil)))]⟩ [] (by kernel_rfl) trivial ?_
          exact ⟨m, Nat.lt_succ_self m, _, _, rfl, h⟩
      · refine Run.regE hX [(8, .call (.d t4 y24)), (9, .b false)] 700 [1, 3, 4] [100] ⟨[(1, (.ptr 100 0)), (3, (.d t4 false)), (4, (.d t2 x21))], [(100, (.box (.vcons (.d t23 x22) .vnil)))]⟩ [CallPure Pg 47 [(.d t2 (List.getD x22.2.2.2.2.2.2.1 (toN x21) ((0 : Int), (0 : Int), (0 : Int), (0 : Int), (0 : Int))).1), (.d t2 (List.getD x22.2.2.2.2.2.2.1 (toN x21) ((0 : Int), (0 : Int), (0 : Int), (0 : Int), (0 : Int))).2.1), (.d t2 (List.getD x22.2.2.2.2.2.2.1 (toN x21) ((0 : Int), (0 : Int), (0 : Int), (0 : Int), (0 : Int))).2.2.1), (.d t2 (List.getD x22.2.2.2.2.2.2.1 (toN x21) ((0 : Int), (0 : Int), (0 : Int), (0 : Int), (0 : Int))).2.2.2.1)] (.d t4 y24), y24 = false] (by kernel_rfl) ⟨(c47 h_y24), hb1, trivial⟩ ?_
        show Run Pg 81 _ _ _
        refine Run.regE hX [] 500 [1, 3, 4] [100] ⟨[(1, (.ptr 100 0)), (3, (.d t4 false)), (4, (.d t2 (wrapI .i64 (x21 + (1 : Int)))))], [(100, (.box (.vcons (.d t23 x22) .vnil)))]⟩ [] (by kernel_rfl) trivial ?_
        exact ⟨m, Nat.lt_succ_self m, _, _, rfl, h⟩
    · replace h := bif_f h hb
      refine Run.keep (s' := ⟨[(3, (.d t4 x20))], []⟩) [3] [] (by kernel_rfl) ?_
      refine Run.exitN 0 (by kernel_rfl) ?_
      replace h := Option.some.inj h
      subst h
      exact ⟨rfl, by kernel_rfl⟩
  · refine Run.regN hX [(5, .b false)] 400 [1, 3, 4, 43] [100] ⟨[(1, (.ptr 100 0)), (3, (.d t4 x20)), (4, (.d t2 x21)), (43, (.d t4 false))], [(100, (.box (.vcons (.d t23 x22) .vnil)))]⟩ [(decide (x21 < (ofN (List.length x22.2.2.2.2.2.2.1)))) = false] (by kernel_rfl) (by kernel_rfl) ⟨hb0, trivial⟩ ?_
    refine Run.condN false (by kernel_rfl) (fun hb => (by cases hb)) (fun hb => ?_)
    refine Run.keep (s' := ⟨[(3, (.d t4 x20))], []⟩) [3] [] (by kernel_rfl) ?_
    refine Run.exitN 0 (by kernel_rfl) ?_
    replace h := Option.some.inj h
    subst h
    exact ⟨rfl, by kernel_rfl⟩

def f22_l4_post (x28 : Int × Int × Int × Int × Int × Int × (List (Int × Int × Int × Int × Int)) × Int) : (Bool) → Ex → St → Prop
  | o, x, s => x = .out 0 ∧ s = ⟨[(3, (.d t4 o))], []⟩

def f22_l4_b (x28 : Int × Int × Int × Int × Int × Int × (List (Int × Int × Int × Int × Int)) × Int) (again : Bool × Int → Option (Bool)) : Bool × Int → Option (Bool)
  | (x26, x27) =>
    (bif (decide (x27 < (ofN (List.length x28.2.2.2.2.2.2.1)))) then
      (bif x26 then
        gd (0 ≤ x27) <|
        gd (x27 < ((List.length x28.2.2.2.2.2.2.1 : Nat) : Int)) <|
        (F47 (List.getD x28.2.2.2.2.2.2.1 (toN x27) ((0 : Int), (0 : Int), (0 : Int), (0 : Int), (0 : Int))).1 (List.getD x28.2.2.2.2.2.2.1 (toN x27) ((0 : Int), (0 : Int), (0 : Int), (0 : Int), (0 : Int))).2.1 (List.getD x28.2.2.2.2.2.2.1 (toN x27) ((0 : Int), (0 : Int), (0 : Int), (0 : Int), (0 : Int))).2.2.1 (List.getD x28.2.2.2.2.2.2.1 (toN x27) ((0 : Int), (0 : Int), (0 : Int), (0 : Int), (0 : Int))).2.2.2.1).bind fun y30 =>
        (bif y30 then
          (F48 (List.getD x28.2.2.2.2.2.2.1 (toN x27) ((0 : Int), (0 : Int), (0 : Int), (0 : Int), (0 : Int))).2.2.2.2 (max2i (wrapI .i64 ((wrapI .i64 (0 - x28.2.2.2.2.1)) - x28.2.2.2.2.2.1)) (-10000000 : Int))).bind fun y31 =>
          (bif y31 then
            again ((decide ((List.getD x28.2.2.2.2.2.2.1 (toN x27) ((0 : Int), (0 : Int), (0 : Int), (0 : Int), (0 : Int))).2.2.2.2 < x28.2.2.2.2.2.2.2)), (wrapI .i64 (x27 + (1 : Int))))
          else
            again (false, (wrapI .i64 (x27 + (1 : Int)))))
        else
          again (false, (wrapI .i64 (x27 + (1 : Int)))))
      else
        some x26)
    else
      some x26)

def f22_l4 (x28 : Int × Int × Int × Int × Int × Int × (List (Int × Int × Int × Int × Int)) × Int) : Nat → Bool × Int → Option (Bool) := loopF (f22_l4_b x28)

theorem f22_l4_ok (x28 : Int × Int × Int × Int × Int × Int × (List (Int × Int × Int × Int × Int)) × Int) (k : Nat) (x26 : Bool) (x27 : Int) {out : (Bool)} (h : f22_l4 x28 k (x26, x27) = some out) : Run Pg 81 (bk1 (sq2 (sq1 (sq2 (sq2 c_22))))) ⟨[(1, (.ptr 100 0)), (3, (.d t4 x26)), (4, (.d t2 x27))], [(100, (.box (.vcons (.d t23 x28) .vnil)))]⟩ (f22_l4_post x28 out) := by
  refine Run.loopN (by kernel_rfl) (fun m s => ∃ x26 x27, s = ⟨[(1, (.ptr 100 0)), (3, (.d t4 x26)), (4, (.d t2 x27))], [(100, (.box (.vcons (.d t23 x28) .vnil)))]⟩ ∧ f22_l4 x28 m (x26, x27) = some out) ?_ k ⟨x26, x27,  rfl, h⟩
  rintro m s ⟨x26, x27,  rfl, h⟩
  cases m with
  | zero => cases h
  | succ m =>
  replace h : f22_l4_b x28 (f22_l4 x28 m) (x26, x27) = some out := h
  unfold f22_l4_b at h
  refine Run.seqN (by kernel_rfl) ?_
  rcases bif_elim h with ⟨hb0, h⟩ | ⟨hb0, h⟩
  · refine Run.regN hX [(5, .b true)] 400 [1, 3, 4, 43] [100] ⟨[(1, (.ptr 100 0)), (3, (.d t4 x26)), (4, (.d t2 x27)), (43, (.d t4 x26))], [(100, (.box (.vcons (.d t23 x28) .vnil)))]⟩ [(decide (x27 < (ofN (List.length x28.2.2.2.2.2.2.1)))) = true] (by kernel_rfl) (by kernel_rfl) ⟨hb0, trivial⟩ ?_
    refine Run.condN x26 (by kernel_rfl) (fun hb => ?_) (fun hb => ?_)
    · replace h := bif_t h hb
      refine Run.skipN (by kernel_rfl) ?_
      show Run Pg 81 _ _ _
      refine Run.seqN (by kernel_rfl) ?_
      refine Run.blockN 1 (by kernel_rfl) ?_
      obtain ⟨g_0, h⟩ := gd_elim h
      obtain ⟨g_1, h⟩ := gd_elim h
      refine Run.regN hX [] 600 [1, 4, 5] [100, 605] ⟨[(1, (.ptr 100 0)), (4, (.d t2 x27)), (5, (.ptr 605 0))], [(100, (.box (.vcons (.d t23 x28) .vnil))), (605, (.box (.vcons (.d t55 (List.getD x28.2.2.2.2.2.2.1 (toN x27) ((0 : Int), (0 : Int), (0 : Int), (0 : Int), (0 : Int)))) .vnil)))]⟩ [(0 ≤ x27), (x27 < ((List.length x28.2.2.2.2.2.2.1 : Nat) : Int))] (by kernel_rfl) (by kernel_rfl) ⟨g_0, g_1, trivial⟩ ?_
      obtain ⟨y30, h_y30, h⟩ := bnd_elim h
      rcases bif_elim h with ⟨hb1, h⟩ | ⟨hb1, h⟩
      · obtain ⟨y31, h_y31, h⟩ := bnd_elim h
        rcases bif_elim h with ⟨hb3, h⟩ | ⟨hb3, h⟩
        · refine Run.regE hX [(8, .call (.d t4 y30)), (9, .b true), (19, .call (.d t4 y31)), (21, .b true)] 700 [1, 3, 4] [100] ⟨[(1, (.ptr 100 0)), (3, (.d t4 (decide ((List.getD x28.2.2.2.2.2.2.1 (toN x27) ((0 : Int), (0 : Int), (0 : Int), (0 : Int), (0 : Int))).2.2.2.2 < x28.2.2.2.2.2.2.2)))), (4, (.d t2 x27))], [(100, (.box (.vcons (.d t23 x28) .vnil)))]⟩ [CallPure Pg 47 [(.d t2 (List.getD x28.2.2.2.2.2.2.1 (toN x27) ((0 : Int), (0 : Int), (0 : Int), (0 : Int), (0 : Int))).1), (.d t2 (List.getD x28.2.2.2.2.2.2.1 (toN x27) ((0 : Int), (0 : Int), (0 : Int), (0 : Int), (0 : Int))).2.1), (.d t2 (List.getD x28.2.2.2.2.2.2.1 (toN x27) ((0 : Int), (0 : Int), (0 : Int), (0 : Int), (0 : Int))).2.2.1), (.d t2 (List.getD x28.2.2.2.2.2.2.1 (toN x27) ((0 : Int), (0 : Int), (0 : Int), (0 : Int), (0 : Int))).2.2.2.1)] (.d t4 y30), y30 = true, CallPure Pg 48 [(.d t2 (List.getD x28.2.2.2.2.2.2.1 (toN x27) ((0 : Int), (0 : Int), (0 : Int), (0 : Int), (0 : Int))).2.2.2.2), (.d t2 (max2i (wrapI .i64 ((wrapI .i64 (0 - x28.2.2.2.2.1)) - x28.2.2.2.2.2.1)) (-10000000 : Int)))] (.d t4 y31), y31 = true] (by kernel_rfl) ⟨(c47 h_y30), hb1, (c48 h_y31), hb3, trivial⟩ ?_
          show Run Pg 81 _ _ _
          refine Run.regE hX [] 500 [1, 3, 4] [100] ⟨[(1, (.ptr 100 0)), (3, (.d t4 (decide ((List.getD x28.2.2.2.2.2.2.1 (toN x27) ((0 : Int), (0 : Int), (0 : Int), (0 : Int), (0 : Int))).2.2.2.2 < x28.2.2.2.2.2.2.2)))), (4, (.d t2 (wrapI .i64 (x27 + (1 : Int)))))], [(100, (.box (.vcons (.d t23 x28) .vnil)))]⟩ [] (by kernel_rfl) trivial ?_
          exact ⟨m, Nat.lt_succ_self m, _, _, rfl, h⟩
        · refine Run.regE hX [(8, .call (.d t4 y30)), (9, .b true), (19, .call (.d t4 y31)), (21, .b false)] 700 [1, 3, 4] [100] ⟨[(1, (.ptr 100 0)), (3, (.d t4 false)), (4, (.d t2 x27))], [(100, (.box (.vcons (.d t23 x28) .vnil)))]⟩ [CallPure Pg 47 [(.d t2 (List.getD x28.2.2.2.2.2.2.1 (toN x27) ((0 : Int), (0 : Int), (0 : Int), (0 : Int), (0 : Int))).1), (.d t2 (List.getD x28.2.2.2.2.2.2.1 (toN x27) ((0 : Int), (0 : Int), (0 : Int), (0 : Int), (0 : Int))).2.1), (.d t2 (List.getD x28.2.2.2.2.2.2.1 (toN x27) ((0 : Int), (0 : Int), (0 : Int), (0 : Int), (0 : Int))).2.2.1), (.d t2 (List.getD x28.2.2.2.2.2.2.1 (toN x27) ((0 : Int), (0 : Int), (0 : Int), (0 : Int), (0 : Int))).2.2.2.1)] (.d t4 y30), y30 = true, CallPure Pg 48 [(.d t2 (List.getD x28.2.2.2.2.2.2.1 (toN x27) ((0 : Int), (0 : Int), (0 : Int), (0 : Int), (0 : Int))).2.2.2.2), (.d t2 (max2i (wrapI .i64 ((wrapI .i64 (0 - x28.2.2.2.2.1)) - x28.2.2.2.2.2.1)) (-10000000 : Int)))] (.d t4 y31), y31 = false] (by kernel_rfl) ⟨(c47 h_y30), hb1, (c48 h_y31), hb3, trivial⟩ ?_
          show Run Pg 81 _ _ _
          refine Run.regE hX [] 500 [1, 3, 4] [100] ⟨[(1, (.ptr 100 0)), (3, (.d t4 false)), (4, (.d t2 (wrapI .i64 (x27 + (1 : Int)))))], [(100, (.box (.vcons (.d t23 x28) .vnil)))]⟩ [] (by kernel_rfl) trivial ?_
          exact ⟨m, Nat.lt_succ_self m, _, _, rfl, h⟩
      · refine Run.regE hX [(8, .call (.d t4 y30)), (9, .b false)] 700 [1, 3, 4] [100] ⟨[(1, (.ptr 100 0)), (3, (.d t4 false)), (4, (.d t2 x27))], [(100, (.box (.vcons (.d t23 x28) .vnil)))]⟩ [CallPure Pg 47 [(.d t2 (List.getD x28.2.2.2.2.2.2.1 (toN x27) ((0 : Int), (0 : Int), (0 : Int), (0 : Int), (0 : Int))).1), (.d t2 (List.getD x28.2.2.2.2.2.2.1 (toN x27) ((0 : Int), (0 : Int), (0 : Int), (0 : Int), (0 : Int))).2.1), (.d t2 (List.getD x28.2.2.2.2.2.2.1 (toN x27) ((0 : Int), (0 : Int), (0 : Int), (0 : Int), (0 : Int))).2.2.1), (.d t2 (List.getD x28.2.2.2.2.2.2.1 (toN x27) ((0 : Int), (0 : Int), (0 : Int), (0 : Int), (0 : Int))).2.2.2.1)] (.d t4 y30), y30 = false] (by kernel_rfl) ⟨(c47 h_y30), hb1, trivial⟩ ?_
        show Run Pg 81 _ _ _
        refine Run.regE hX [] 500 [1, 3, 4] [100] ⟨[(1, (.ptr 100 0)), (3, (.d t4 false)), (4, (.d t2 (wrapI .i64 (x27 + (1 : Int)))))], [(100, (.box (.vcons (.d t23 x28) .vnil)))]⟩ [] (by kernel_rfl) trivial ?_
        exact ⟨m, Nat.lt_succ_self m, _, _, rfl, h⟩
    · replace h := bif_f h hb
      refine Run.keep (s' := ⟨[(3, (.d t4 x26))], []⟩) [3] [] (by kernel_rfl) ?_
      refine Run.exitN 0 (by kernel_rfl) ?_
      replace h := Option.some.inj h
      subst h
      exact ⟨rfl, by kernel_rfl⟩
  · refine Run.regN hX [(5, .b false)] 400 [1, 3, 4, 43] [100] ⟨[(1, (.ptr 100 0)), (3, (.d t4 x26)), (4, (.d t2 x27)), (43, (.d t4 false))], [(100, (.box (.vcons (.d t23 x28) .vnil)))]⟩ [(decide (x27 < (ofN (List.length x28.2.2.2.2.2.2.1)))) = false] (by kernel_rfl) (by kernel_rfl) ⟨hb0, trivial⟩ ?_
    refine Run.condN false (by kernel_rfl) (fun hb => (by cases hb)) (fun hb => ?_)
    refine Run.keep (s' := ⟨[(3, (.d t4 x26))], []⟩) [3] [] (by kernel_rfl) ?_
    refine Run.exitN 0 (by kernel_rfl) ?_
    replace h := Option.some.inj h
    subst h
    exact ⟨rfl, by kernel_rfl⟩

def F22 (a0 : Int × Int × Int × Int × Int × Int × (List (Int × Int × Int × Int × Int)) × Int) : Option (Int) :=
  (F47 a0.1 a0.2.1 a0.2.2.1 a0.2.2.2.1).bind fun y1 =>
  (bif y1 then
    (F48 a0.2.2.2.2.1 (1 : Int)).bind fun y2 =>
    (bif y2 then
      (F48 a0.2.2.2.2.2.1 (0 : Int)).bind fun y3 =>
      (bif y3 then
        (bif (decide ((ofN (List.length a0.2.2.2.2.2.2.1)) ≤ (50 : Int))) then
          (F48 a0.2.2.2.2.2.2.2 (1 : Int)).bind fun y4 =>
          ((f22_l0 a0 (2 + List.length a0.2.2.2.2.2.2.1) (y4, (0 : Int))).bind fun o7 =>
            (bif (!o7) then
              some (1 : Int)
            else
              some (0 : Int)))
        else
          ((f22_l1 a0 (2 + List.length a0.2.2.2.2.2.2.1) (false, (0 : Int))).bind fun o13 =>
            (bif (!o13) then
              some (1 : Int)
            else
              some (0 : Int))))
      else
        ((f22_l2 a0 (2 + List.length a0.2.2.2.2.2.2.1) (false, (0 : Int))).bind fun o19 =>
          (bif (!o19) then
            some (1 : Int)
          else
            some (0 : Int))))
    else
      ((f22_l3 a0 (2 + List.length a0.2.2.2.2.2.2.1) (false, (0 : Int))).bind fun o25 =>
        (bif (!o25) then
          some (1 : Int)
        else
          some (0 : Int))))
  else
    ((f22_l4 a0 (2 + List.length a0.2.2.2.2.2.2.1) (false, (0 : Int))).bind fun o31 =>
      (bif (!o31) then
        some (1 : Int)
      else
        some (0 : Int))))

theorem c22 {a0 : Int × Int × Int × Int × Int × Int × (List (Int × Int × Int × Int × Int)) × Int} {r : Int} (h : F22 a0 = some r) : CallPure Pg 22 [(.d t23 a0)] (.d t2 r) := by
  refine callPureN hX c_22 81 [.tmp 2] [32] Go.Proofs.Try.func22 (by kernel_rfl) (by kernel_rfl) (by kernel_rfl) (Nat.le_of_ble_eq_true rfl) rfl rfl ?_
  show Run Pg 81 c_22 ⟨[(0, (.d t23 a0))], []⟩ (fin22 r)
  unfold F22 at h
  refine Run.regN hX [] 100 [1] [100] ⟨[(1, (.ptr 100 0))], [(100, (.box (.vcons (.d t23 a0) .vnil)))]⟩ [] (by kernel_rfl) (by kernel_rfl) trivial ?_
  obtain ⟨y1, h_y1, h⟩ := bnd_elim h
  rcases bif_elim h with ⟨hb1, h⟩ | ⟨hb1, h⟩
  · obtain ⟨y2, h_y2, h⟩ := bnd_elim h
    rcases bif_elim h with ⟨hb3, h⟩ | ⟨hb3, h⟩
    · obtain ⟨y3, h_y3, h⟩ := bnd_elim h
      rcases bif_elim h with ⟨hb5, h⟩ | ⟨hb5, h⟩
      · rcases bif_elim h with ⟨hb6, h⟩ | ⟨hb6, h⟩
        · obtain ⟨y4, h_y4, h⟩ := bnd_elim h
          refine Run.regN hX [(8, .call (.d t4 y1)), (9, .b true), (12, .call (.d t4 y2)), (14, .b true), (17, .call (.d t4 y3)), (19, .b true), (25, .b true), (28, .call (.d t4 y4))] 200 [1, 3] [100] ⟨[(1, (.ptr 100 0)), (3, (.d t4 y4))], [(100, (.box (.vcons (.d t23 a0) .vnil)))]⟩ [CallPure Pg 47 [(.d t2 a0.1), (.d t2 a0.2.1), (.d t2 a0.2.2.1), (.d t2 a0.2.2.2.1)] (.d t4 y1), y1 = true, CallPure Pg 48 [(.d t2 a0.2.2.2.2.1), (.d t2 (1 : Int))] (.d t4 y2), y2 = true, CallPure Pg 48 [(.d t2 a0.2.2.2.2.2.1), (.d t2 (0 : Int))] (.d t4 y3), y3 = true, (decide ((ofN (List.length a0.2.2.2.2.2.2.1)) ≤ (50 : Int))) = true, CallPure Pg 48 [(.d t2 a0.2.2.2.2.2.2.2), (.d t2 (1 : Int))] (.d t4 y4)] (by kernel_rfl) (by kernel_rfl) ⟨(c47 h_y1), hb1, (c48 h_y2), hb3, (c48 h_y3), hb5, hb6, (c48 h_y4), trivial⟩ ?_
          refine Run.seqN (by kernel_rfl) ?_
          refine Run.regN hX [] 300 [1, 3, 4] [100] ⟨[(1, (.ptr 100 0)), (3, (.d t4 y4)), (4, (.d t2 (0 : Int)))], [(100, (.box (.vcons (.d t23 a0) .vnil)))]⟩ [] (by kernel_rfl) (by kernel_rfl) trivial ?_
          refine Run.blockN 0 (by kernel_rfl) ?_
          obtain ⟨o7, h_o7, h⟩ := bnd_elim h
          refine Run.mono (f22_l0_ok a0 _ y4 (0 : Int) h_o7) ?_
          rintro x s ⟨hx, hs⟩
          subst hx
          subst hs
          show Run Pg 81 _ _ _
          refine Run.seqN (by kernel_rfl) ?_
          refine Run.regN hX [] 800 [80] [] ⟨[(80, (.d t4 (!o7)))], []⟩ [] (by kernel_rfl) (by kernel_rfl) trivial ?_
          refine Run.condN (!o7) (by kernel_rfl) (fun hb => ?_) (fun hb => ?_)
          · replace h := bif_t h hb
            refine Run.regN hX [] 900 [2] [] ⟨[(2, (.d t2 (1 : Int)))], []⟩ [] (by kernel_rfl) (by kernel_rfl) trivial ?_
            refine Run.retN (by kernel_rfl) ?_
            replace h := Option.some.inj h
            subst h
            exact ⟨[(.d t2 (1 : Int))], by kernel_rfl, by kernel_rfl⟩
          · replace h := bif_f h hb
            refine Run.skipN (by kernel_rfl) ?_
            show Run Pg 81 _ _ _
            refine Run.regN hX [] 1000 [2] [] ⟨[(2, (.d t2 (0 : Int)))], []⟩ [] (by kernel_rfl) (by kernel_rfl) trivial ?_
            refine Run.retN (by kernel_rfl) ?_
            replace h := Option.some.inj h
            subst h
            exact ⟨[(.d t2 (0 : Int))], by kernel_rfl, by kernel_rfl⟩
        · refine Run.regN hX [(8, .call (.d t4 y1)), (9, .b true), (12, .call (.d t4 y2)), (14, .b true), (17, .call (.d t4 y3)), (19, .b true), (25, .b false)] 200 [1, 3] [100] ⟨[(1, (.ptr 100 0)), (3, (.d t4 false))], [(100, (.box (.vcons (.d t23 a0) .vnil)))]⟩ [CallPure Pg 47 [(.d t2 a0.1), (.d t2 a0.2.1), (.d t2 a0.2.2.1), (.d t2 a0.2.2.2.1)] (.d t4 y1), y1 = true, CallPure Pg 48 [(.d t2 a0.2.2.2.2.1), (.d t2 (1 : Int))] (.d t4 y2), y2 = true, CallPure Pg 48 [(.d t2 a0.2.2.2.2.2.1), (.d t2 (0 : Int))] (.d t4 y3), y3 = true, (decide ((ofN (List.length a0.2.2.2.2.2.2.1)) ≤ (50 : Int))) = false] (by kernel_rfl) (by kernel_rfl) ⟨(c47 h_y1), hb1, (c48 h_y2), hb3, (c48 h_y3), hb5, hb6, trivial⟩ ?_
          refine Run.seqN (by kernel_rfl) ?_
          refine Run.regN hX [] 300 [1, 3, 4] [100] ⟨[(1, (.ptr 100 0)), (3, (.d t4 false)), (4, (.d t2 (0 : Int)))], [(100, (.box (.vcons (.d t23 a0) .vnil)))]⟩ [] (by kernel_rfl) (by kernel_rfl) trivial ?_
          refine Run.blockN 0 (by kernel_rfl) ?_
          obtain ⟨o13, h_o13, h⟩ := bnd_elim h
          refine Run.mono (f22_l1_ok a0 _ false (0 : Int) h_o13) ?_
          rintro x s ⟨hx, hs⟩
          subst hx
          subst hs
          show Run Pg 81 _ _ _
          refine Run.seqN (by kernel_rfl) ?_
          refine Run.regN hX [] 800 [80] [] ⟨[(80, (.d t4 (!o13)))], []⟩ [] (by kernel_rfl) (by kernel_rfl) trivial ?_
          refine Run.condN (!o13) (by kernel_rfl) (fun hb => ?_) (fun hb => ?_)
          · replace h := bif_t h hb
            refine Run.regN hX [] 900 [2] [] ⟨[(2, (.d t2 (1 : Int)))], []⟩ [] (by kernel_rfl) (by kernel_rfl) trivial ?_
            refine Run.retN (by kernel_rfl) ?_
            replace h := Option.some.inj h
            subst h
            exact ⟨[(.d t2 (1 : Int))], by kernel_rfl, by kernel_rfl⟩
          · replace h := bif_f h hb
            refine Run.skipN (by kernel_rfl) ?_
            show Run Pg 81 _ _ _
            refine Run.regN hX [] 1000 [2] [] ⟨[(2, (.d t2 (0 : Int)))], []⟩ [] (by kernel_rfl) (by kernel_rfl) trivial ?_
            refine Run.retN (by kernel_rfl) ?_
            replace h := Option.some.inj h
            subst h
            exact ⟨[(.d t2 (0 : Int))], by kernel_rfl, by kernel_rfl⟩
      · refine Run.regN hX [(8, .call (.d t4 y1)), (9, .b true), (12, .call (.d t4 y2)), (14, .b true), (17, .call (.d t4 y3)), (19, .b false)] 200 [1, 3] [100] ⟨[(1, (.ptr 100 0)), (3, (.d t4 false))], [(100, (.box (.vcons (.d t23 a0) .vnil)))]⟩ [CallPure Pg 47 [(.d t2 a0.1), (.d t2 a0.2.1), (.d t2 a0.2.2.1), (.d t2 a0.2.2.2.1)] (.d t4 y1), y1 = true, CallPure Pg 48 [(.d t2 a0.2.2.2.2.1), (.d t2 (1 : Int))] (.d t4 y2), y2 = true, CallPure Pg 48 [(.d t2 a0.2.2.2.2.2.1), (.d t2 (0 : Int))] (.d t4 y3), y3 = false] (by kernel_rfl) (by kernel_rfl) ⟨(c47 h_y1), hb1, (c48 h_y2), hb3, (c48 h_y3), hb5, trivial⟩ ?_
        refine Run.seqN (by kernel_rfl) ?_
        refine Run.regN hX [] 300 [1, 3, 4] [100] ⟨[(1, (.ptr 100 0)), (3, (.d t4 false)), (4, (.d t2 (0 : Int)))], [(100, (.box (.vcons (.d t23 a0) .vnil)))]⟩ [] (by kernel_rfl) (by kernel_rfl) trivial ?_
        refine Run.blockN 0 (by kernel_rfl) ?_
        obtain ⟨o19, h_o19, h⟩ := bnd_elim h
        refine Run.mono (f22_l2_ok a0 _ false (0 : Int) h_o19) ?_
        rintro x s ⟨hx, hs⟩
        subst hx
        subst hs
        show Run Pg 81 _ _ _
        refine Run.seqN (by kernel_rfl) ?_
        refine Run.regN hX [] 800 [80] [] ⟨[(80, (.d t4 (!o19)))], []⟩ [] (by kernel_rfl) (by kernel_rfl) trivial ?_
        refine Run.condN (!o19) (by kernel_rfl) (fun hb => ?_) (fun hb => ?_)
        · replace h := bif_t h hb
          refine Run.regN hX [] 900 [2] [] ⟨[(2, (.d t2 (1 : Int)))], []⟩ [] (by kernel_rfl) (by kernel_rfl) trivial ?_
          refine Run.retN (by kernel_rfl) ?_
          replace h := Option.some.inj h
          subst h
          exact ⟨[(.d t2 (1 : Int))], by kernel_rfl, by kernel_rfl⟩
        · replace h := bif_f h hb
          refine Run.skipN (by kernel_rfl) ?_
          show Run Pg 81 _ _ _
          refine Run.regN hX [] 1000 [2] [] ⟨[(2, (.d t2 (0 : Int)))], []⟩ [] (by kernel_rfl) (by kernel_rfl) trivial ?_
          refine Run.retN (by kernel_rfl) ?_
          replace h := Option.some.inj h
          subst h
          exact ⟨[(.d t2 (0 : Int))], by kernel_rfl, by kernel_rfl⟩
    · refine Run.regN hX [(8, .call (.d t4 y1)), (9, .b true), (12, .call (.d t4 y2)), (14, .b false)] 200 [1, 3] [100] ⟨[(1, (.ptr 100 0)), (3, (.d t4 false))], [(100, (.box (.vcons (.d t23 a0) .vnil)))]⟩ [CallPure Pg 47 [(.d t2 a0.1), (.d t2 a0.2.1), (.d t2 a0.2.2.1), (.d t2 a0.2.2.2.1)] (.d t4 y1), y1 = true, CallPure Pg 48 [(.d t2 a0.2.2.2.2.1), (.d t2 (1 : Int))] (.d t4 y2), y2 = false] (by kernel_rfl) (by kernel_rfl) ⟨(c47 h_y1), hb1, (c48 h_y2), hb3, trivial⟩ ?_
      refine Run.seqN (by kernel_rfl) ?_
      refine Run.regN hX [] 300 [1, 3, 4] [100] ⟨[(1, (.ptr 100 0)), (3, (.d t4 false)), (4, (.d t2 (0 : Int)))], [(100, (.box (.vcons (.d t23 a0) .vnil)))]⟩ [] (by kernel_rfl) (by kernel_rfl) trivial ?_
      refine Run.blockN 0 (by kernel_rfl) ?_
      obtain ⟨o25, h_o25, h⟩ := bnd_elim h
      refine Run.mono (f22_l3_ok a0 _ false (0 : Int) h_o25) ?_
      rintro x s ⟨hx, hs⟩
      subst hx
      subst hs
      show Run Pg 81 _ _ _
      refine Run.seqN (by kernel_rfl) ?_
      refine Run.regN hX [] 800 [80] [] ⟨[(80, (.d t4 (!o25)))], []⟩ [] (by kernel_rfl) (by kernel_rfl) trivial ?_
      refine Run.condN (!o25) (by kernel_rfl) (fun hb => ?_) (fun hb => ?_)
      · replace h := bif_t h hb
        refine Run.regN hX [] 900 [2] [] ⟨[(2, (.d t2 (1 : Int)))], []⟩ [] (by kernel_rfl) (by kernel_rfl) trivial ?_
        refine Run.retN (by kernel_rfl) ?_
        replace h := Option.some.inj h
        subst h
        exact ⟨[(.d t2 (1 : Int))], by kernel_rfl, by kernel_rfl⟩
      · replace h := bif_f h hb
        refine Run.skipN (by kernel_rfl) ?_
        show Run Pg 81 _ _ _
        refine Run.regN hX [] 1000 [2] [] ⟨[(2, (.d t2 (0 : Int)))], []⟩ [] (by kernel_rfl) (by kernel_rfl) trivial ?_
        refine Run.retN (by kernel_rfl) ?_
        replace h := Option.some.inj h
        subst h
        exact ⟨[(.d t2 (0 : Int))], by kernel_rfl, by kernel_rfl⟩
  · refine Run.regN hX [(8, .call (.d t4 y1)), (9, .b false)] 200 [1, 3] [100] ⟨[(1, (.ptr 100 0)), (3, (.d t4 false))], [(100, (.box (.vcons (.d t23 a0) .vnil)))]⟩ [CallPure Pg 47 [(.d t2 a0.1), (.d t2 a0.2.1), (.d t2 a0.2.2.1), (.d t2 a0.2.2.2.1)] (.d t4 y1), y1 = false] (by kernel_rfl) (by kernel_rfl) ⟨(c47 h_y1), hb1, trivial⟩ ?_
    refine Run.seqN (by kernel_rfl) ?_
    refine Run.regN hX [] 300 [1, 3, 4] [100] ⟨[(1, (.ptr 100 0)), (3, (.d t4 false)), (4, (.d t2 (0 : Int)))], [(100, (.box (.vcons (.d t23 a0) .vnil)))]⟩ [] (by kernel_rfl) (by kernel_rfl) trivial ?_
    refine Run.blockN 0 (by kernel_rfl) ?_
    obtain ⟨o31, h_o31, h⟩ := bnd_elim h
    refine Run.mono (f22_l4_ok a0 _ false (0 : Int) h_o31) ?_
    rintro x s ⟨hx, hs⟩
    subst hx
    subst hs
    show Run Pg 81 _ _ _
    refine Run.seqN (by kernel_rfl) ?_
    refine Run.regN hX [] 800 [80] [] ⟨[(80, (.d t4 (!o31)))], []⟩ [] (by kernel_rfl) (by kernel_rfl) trivial ?_
    refine Run.condN (!o31) (by kernel_rfl) (fun hb => ?_) (fun hb => ?_)
    · replace h := bif_t h hb
      refine Run.regN hX [] 900 [2] [] ⟨[(2, (.d t2 (1 : Int)))], []⟩ [] (by kernel_rfl) (by kernel_rfl) trivial ?_
      refine Run.retN (by kernel_rfl) ?_
      replace h := Option.some.inj h
      subst h
      exact ⟨[(.d t2 (1 : Int))], by kernel_rfl, by kernel_rfl⟩
    · replace h := bif_f h hb
      refine Run.skipN (by kernel_rfl) ?_
      show Run Pg 81 _ _ _
      refine Run.regN hX [] 1000 [2] [] ⟨[(2, (.d t2 (0 : Int)))], []⟩ [] (by kernel_rfl) (by kernel_rfl) trivial ?_
      refine Run.retN (by kernel_rfl) ?_
      replace h := Option.some.inj h
      subst h
      exact ⟨[(.d t2 (0 : Int))], by kernel_rfl, by kernel_rfl⟩

/-! ## f6 -/

noncomputable def c_6 : Code := body0 Go.Proofs.Try.f6

def fin6 (r : Bool) : Ex → St → Prop := endK X0 [.tmp 4] [4] (.d t4 r)

def f6_l0_post (x1 : List Int) (x2 : Int) (x4 : Int × Int × Int × Int × Int × Int × (List (Int × Int × Int × Int × Int)) × Int) : ((Unit) ⊕ (Bool)) → Ex → St → Prop
  | .inl o, x, s => x = .out 0 ∧ s = ⟨[(2, (.ptr 100 0))], [(100, (.box (.vcons (.d t23 x4) .vnil)))]⟩
  | .inr o, x, s => x = .ret ∧ fin6  o x s

def f6_l0_b (x1 : List Int) (x2 : Int) (again : Int → Option ((Unit) ⊕ (Bool))) : Int → Option ((Unit) ⊕ (Bool))
  | x3 =>
    (bif (decide (x3 < x2)) then
      gd (0 ≤ x3) <|
      gd (x3 < ((List.length x1 : Nat) : Int)) <|
      (bif (decide ((10000000 : Int) < (List.getD x1 (toN x3) (0 : Int)))) then
        some (.inr false)
      else
        (bif (decide ((List.getD x1 (toN x3) (0 : Int)) < (-10000000 : Int))) then
          some (.inr false)
        else
          again (wrapI .i64 (x3 + (1 : Int)))))
    else
      some (.inl ()))

def f6_l0 (x1 : List Int) (x2 : Int) : Nat → Int → Option ((Unit) ⊕ (Bool)) := loopF (f6_l0_b x1 x2)

theorem f6_l0_ok (x1 : List Int) (x2 : Int) (x4 : Int × Int × Int × Int × Int × Int × (List (Int × Int × Int × Int × Int)) × Int) (k : Nat) (x3 : Int) {out : ((Unit) ⊕ (Bool))} (h : f6_l0 x1 x2 k x3 = some out) : Run Pg 27 (bk1 (sq2 (sq1 (sq2 c_6)))) ⟨[(2, (.ptr 100 0)), (7, (.d t57 x1)), (8, (.d t2 x2)), (9, (.d t2 x3))], [(100, (.box (.vcons (.d t23 x4) .vnil)))]⟩ (f6_l0_post x1 x2 x4 out) := by
  refine Run.loopN (by kernel_rfl) (fun m s => ∃ x3, s = ⟨[(2, (.ptr 100 0)), (7, (.d t57 x1)), (8, (.d t2 x2)), (9, (.d t2 x3))], [(100, (.box (.vcons (.d t23 x4) .vnil)))]⟩ ∧ f6_l0 x1 x2 m x3 = some out) ?_ k ⟨x3,  rfl, h⟩
  rintro m s ⟨x3,  rfl, h⟩
  cases m with
  | zero => cases h
  | succ m =>
  replace h : f6_l0_b x1 x2 (f6_l0 x1 x2 m) x3 = some out := h
  unfold f6_l0_b at h
  refine Run.regN hX [] 300 [2, 7, 8, 9, 10] [100] ⟨[(2, (.ptr 100 0)), (7, (.d t57 x1)), (8, (.d t2 x2)), (9, (.d t2 x3)), (10, (.d t4 (decide (x3 < x2))))], [(100, (.box (.vcons (.d t23 x4) .vnil)))]⟩ [] (by kernel_rfl) (by kernel_rfl) trivial ?_
  refine Run.seqN (by kernel_rfl) ?_
  refine Run.condN (decide (x3 < x2)) (by kernel_rfl) (fun hb => ?_) (fun hb => ?_)
  · replace h := bif_t h hb
    refine Run.skipN (by kernel_rfl) ?_
    show Run Pg 27 _ _ _
    refine Run.seqN (by kernel_rfl) ?_
    refine Run.blockN 1 (by kernel_rfl) ?_
    obtain ⟨g_0, h⟩ := gd_elim h
    obtain ⟨g_1, h⟩ := gd_elim h
    refine Run.regN hX [] 400 [2, 6, 7, 8, 9] [100] ⟨[(2, (.ptr 100 0)), (6, (.d t2 (List.getD x1 (toN x3) (0 : Int)))), (7, (.d t57 x1)), (8, (.d t2 x2)), (9, (.d t2 x3))], [(100, (.box (.vcons (.d t23 x4) .vnil)))]⟩ [(0 ≤ x3), (x3 < ((List.length x1 : Nat) : Int))] (by kernel_rfl) (by kernel_rfl) ⟨g_0, g_1, trivial⟩ ?_
    rcases bif_elim h with ⟨hb0, h⟩ | ⟨hb0, h⟩
    · refine Run.regN hX [(2, .b true)] 500 [2, 7, 8, 9, 18] [100] ⟨[(2, (.ptr 100 0)), (7, (.d t57 x1)), (8, (.d t2 x2)), (9, (.d t2 x3)), (18, (.d t4 true))], [(100, (.box (.vcons (.d t23 x4) .vnil)))]⟩ [(decide ((10000000 : Int) < (List.getD x1 (toN x3) (0 : Int)))) = true] (by kernel_rfl) (by kernel_rfl) ⟨hb0, trivial⟩ ?_
      refine Run.condN true (by kernel_rfl) (fun hb => ?_) (fun hb => (by cases hb))
      refine Run.regN hX [] 600 [4] [] ⟨[(4, (.d t4 false))], []⟩ [] (by kernel_rfl) (by kernel_rfl) trivial ?_
      refine Run.retN (by kernel_rfl) ?_
      replace h := Option.some.inj h
      subst h
      exact ⟨rfl, [(.d t4 false)], by kernel_rfl, by kernel_rfl⟩
    · refine Run.regN hX [(2, .b false)] 500 [2, 7, 8, 9, 18] [100] ⟨[(2, (.ptr 100 0)), (7, (.d t57 x1)), (8, (.d t2 x2)), (9, (.d t2 x3)), (18, (.d t4 (decide ((List.getD x1 (toN x3) (0 : Int)) < (-10000000 : Int)))))], [(100, (.box (.vcons (.d t23 x4) .vnil)))]⟩ [(decide ((10000000 : Int) < (List.getD x1 (toN x3) (0 : Int)))) = false] (by kernel_rfl) (by kernel_rfl) ⟨hb0, trivial⟩ ?_
      refine Run.condN (decide ((List.getD x1 (toN x3) (0 : Int)) < (-10000000 : Int))) (by kernel_rfl) (fun hb => ?_) (fun hb => ?_)
      · replace h := bif_t h hb
        refine Run.regN hX [] 600 [4] [] ⟨[(4, (.d t4 false))], []⟩ [] (by kernel_rfl) (by kernel_rfl) trivial ?_
        refine Run.retN (by kernel_rfl) ?_
        replace h := Option.some.inj h
        subst h
        exact ⟨rfl, [(.d t4 false)], by kernel_rfl, by kernel_rfl⟩
      · replace h := bif_f h hb
        refine Run.skipN (by kernel_rfl) ?_
        show Run Pg 27 _ _ _
        refine Run.regE hX [] 700 [2, 7, 8, 9] [100] ⟨[(2, (.ptr 100 0)), (7, (.d t57 x1)), (8, (.d t2 x2)), (9, (.d t2 (wrapI .i64 (x3 + (1 : Int)))))], [(100, (.box (.vcons (.d t23 x4) .vnil)))]⟩ [] (by kernel_rfl) trivial ?_
        exact ⟨m, Nat.lt_succ_self m, _, rfl, h⟩
  · replace h := bif_f h hb
    refine Run.keep (s' := ⟨[(2, (.ptr 100 0))], [(100, (.box (.vcons (.d t23 x4) .vnil)))]⟩) [2] [100] (by kernel_rfl) ?_
    refine Run.exitN 0 (by kernel_rfl) ?_
    replace h := Option.some.inj h
    subst h
    exact ⟨rfl, by kernel_rfl⟩

def F6 (a0 : Int × Int × Int × Int × Int × Int × (List (Int × Int × Int × Int × Int)) × Int) (a1 : List Int) : Option (Bool) :=
  ((f6_l0 a1 (ofN (List.length a1)) (2 + List.length a1 + List.length a0.2.2.2.2.2.2.1) (0 : Int)).bind fun o5 => match o5 with
    | .inl o6 =>
        (F11 a0).bind fun y7 =>
        (bif y7 then
          (F22 a0).bind fun y8 =>
          some (y8 == (0 : Int))
        else
          some false)
    | .inr o8 =>
        some o8)

theorem c6 {a0 : Int × Int × Int × Int × Int × Int × (List (Int × Int × Int × Int × Int)) × Int} {a1 : List Int} {r : Bool} (h : F6 a0 a1 = some r) : CallPure Pg 6 [(.d t23 a0), (.d t57 a1)] (.d t4 r) := by
  refine callPureN hX c_6 27 [.tmp 4] [4] Go.Proofs.Try.func6 (by kernel_rfl) (by kernel_rfl) (by kernel_rfl) (Nat.le_of_ble_eq_true rfl) rfl rfl ?_
  show Run Pg 27 c_6 ⟨[(0, (.d t23 a0)), (1, (.d t57 a1))], []⟩ (fin6 r)
  unfold F6 at h
  refine Run.regN hX [] 100 [1, 2] [100] ⟨[(1, (.d t57 a1)), (2, (.ptr 100 0))], [(100, (.box (.vcons (.d t23 a0) .vnil)))]⟩ [] (by kernel_rfl) (by kernel_rfl) trivial ?_
  refine Run.seqN (by kernel_rfl) ?_
  refine Run.regN hX [] 200 [2, 7, 8, 9] [100] ⟨[(2, (.ptr 100 0)), (7, (.d t57 a1)), (8, (.d t2 (ofN (List.length a1)))), (9, (.d t2 (0 : Int)))], [(100, (.box (.vcons (.d t23 a0) .vnil)))]⟩ [] (by kernel_rfl) (by kernel_rfl) trivial ?_
  refine Run.blockN 0 (by kernel_rfl) ?_
  obtain ⟨o5, h_o5, h⟩ := bnd_elim h
  refine Run.mono (f6_l0_ok a1 (ofN (List.length a1)) a0 _ (0 : Int) h_o5) ?_
  rcases o5 with o6 | o8
  · rintro x s ⟨hx, hs⟩
    subst hx
    subst hs
    show Run Pg 27 _ _ _
    obtain ⟨y7, h_y7, h⟩ := bnd_elim h
    rcases bif_elim h with ⟨hb1, h⟩ | ⟨hb1, h⟩
    · obtain ⟨y8, h_y8, h⟩ := bnd_elim h
      refine Run.regN hX [(1, .call (.d t4 y7)), (2, .b true), (4, .call (.d t2 y8))] 800 [4] [] ⟨[(4, (.d t4 (y8 == (0 : Int))))], []⟩ [CallPure Pg 11 [(.d t23 a0)] (.d t4 y7), y7 = true, CallPure Pg 22 [(.d t23 a0)] (.d t2 y8)] (by kernel_rfl) (by kernel_rfl) ⟨(c11 h_y7), hb1, (c22 h_y8), trivial⟩ ?_
      refine Run.retN (by kernel_rfl) ?_
      replace h := Option.some.inj h
      subst h
      exact ⟨[(.d t4 (y8 == (0 : Int)))], by kernel_rfl, by kernel_rfl⟩
    · refine Run.regN hX [(1, .call (.d t4 y7)), (2, .b false)] 800 [4] [] ⟨[(4, (.d t4 false))], []⟩ [CallPure Pg 11 [(.d t23 a0)] (.d t4 y7), y7 = false] (by kernel_rfl) (by kernel_rfl) ⟨(c11 h_y7), hb1, trivial⟩ ?_
      refine Run.retN (by kernel_rfl) ?_
      replace h := Option.some.inj h
      subst h
      exact ⟨[(.d t4 false)], by kernel_rfl, by kernel_rfl⟩
  · rintro x s ⟨hx, hr⟩
    subst hx
    replace h := Option.some.inj h
    subst h
    exact hr

/-! ## f49 -/

noncomputable def c_49 : Code := body0 Go.Proofs.Try.f49

def fin49 (r : Bool) : Ex → St → Prop := endK X0 [.tmp 8] [4] (.d t4 r)

def F49 (a0 : Int) (a1 : Int) (a2 : Int) (a3 : Int) : Option (Bool) :=
  (bif (decide (a0 < a2)) then
    (bif (decide (a1 < a3)) then
      (bif (decide ((-10000000 : Int) ≤ a0)) then
        (bif (decide ((-10000000 : Int) ≤ a1)) then
          (bif (decide (a2 ≤ (10000000 : Int))) then
            some (decide (a3 ≤ (10000000 : Int)))
          else
            some false)
        else
          some false)
      else
        some false)
    else
      some false)
  else
    some false)

theorem c49 {a0 : Int} {a1 : Int} {a2 : Int} {a3 : Int} {r : Bool} (h : F49 a0 a1 a2 a3 = some r) : CallPure Pg 49 [(.d t2 a0), (.d t2 a1), (.d t2 a2), (.d t2 a3)] (.d t4 r) := by
  refine callPureN hX c_49 33 [.tmp 8] [4] Go.Proofs.Try.func49 (by kernel_rfl) (by kernel_rfl) (by kernel_rfl) (Nat.le_of_ble_eq_true rfl) rfl rfl ?_
  show Run Pg 33 c_49 ⟨[(0, (.d t2 a0)), (1, (.d t2 a1)), (2, (.d t2 a2)), (3, (.d t2 a3))], []⟩ (fin49 r)
  unfold F49 at h
  refine Run.regN hX [] 100 [0, 1, 2, 3] [] ⟨[(0, (.d t2 a0)), (1, (.d t2 a1)), (2, (.d t2 a2)), (3, (.d t2 a3))], []⟩ [] (by kernel_rfl) (by kernel_rfl) trivial ?_
  rcases bif_elim h with ⟨hb0, h⟩ | ⟨hb0, h⟩
  · rcases bif_elim h with ⟨hb1, h⟩ | ⟨hb1, h⟩
    · rcases bif_elim h with ⟨hb2, h⟩ | ⟨hb2, h⟩
      · rcases bif_elim h with ⟨hb3, h⟩ | ⟨hb3, h⟩
        · rcases bif_elim h with ⟨hb4, h⟩ | ⟨hb4, h⟩
          · refine Run.regN hX [(3, .b true), (8, .b true), (12, .b true), (16, .b true), (20, .b true)] 200 [8] [] ⟨[(8, (.d t4 (decide (a3 ≤ (10000000 : Int)))))], []⟩ [(decide (a0 < a2)) = true, (decide (a1 < a3)) = true, (decide ((-10000000 : Int) ≤ a0)) = true, (decide ((-10000000 : Int) ≤ a1)) = true, (decide (a2 ≤ (10000000 : Int))) = true] (by kernel_rfl) (by kernel_rfl) ⟨hb0, hb1, hb2, hb3, hb4, trivial⟩ ?_
            refine Run.retN (by kernel_rfl) ?_
            replace h := Option.some.inj h
            subst h
            exact ⟨[(.d t4 (decide (a3 ≤ (10000000 : Int))))], by kernel_rfl, by kernel_rfl⟩
          · refine Run.regN hX [(3, .b true), (8, .b true), (12, .b true), (16, .b true), (20, .b false)] 200 [8] [] ⟨[(8, (.d t4 false))], []⟩ [(decide (a0 < a2)) = true, (decide (a1 < a3)) = true, (decide ((-10000000 : Int) ≤ a0)) = true, (decide ((-10000000 : Int) ≤ a1)) = true, (decide (a2 ≤ (10000000 : Int))) = false] (by kernel_rfl) (by kernel_rfl) ⟨hb0, hb1, hb2, hb3, hb4, trivial⟩ ?_
            refine Run.retN (by kernel_rfl) ?_
            replace h := Option.some.inj h
            subst h
            exact ⟨[(.d t4 false)], by kernel_rfl, by kernel_rfl⟩
        · refine Run.regN hX [(3, .b true), (8, .b true), (12, .b true), (16, .b false)] 200 [8] [] ⟨[(8, (.d t4 false))], []⟩ [(decide (a0 < a2)) = true, (decide (a1 < a3)) = true, (decide ((-10000000 : Int) ≤ a0)) = true, (decide ((-10000000 : Int) ≤ a1)) = false] (by kernel_rfl) (by kernel_rfl) ⟨hb0, hb1, hb2, hb3, trivial⟩ ?_
          refine Run.retN (by kernel_rfl) ?_
          replace h := Option.some.inj h
          subst h
          exact ⟨[(.d t4 false)], by kernel_rfl, by kernel_rfl⟩
      · refine Run.regN hX [(3, .b true), (8, .b true), (12, .b false)] 200 [8] [] ⟨[(8, (.d t4 false))], []⟩ [(decide (a0 < a2)) = true, (decide (a1 < a3)) = true, (decide ((-10000000 : Int) ≤ a0)) = false] (by kernel_rfl) (by kernel_rfl) ⟨hb0, hb1, hb2, trivial⟩ ?_
        refine Run.retN (by kernel_rfl) ?_
        replace h := Option.some.inj h
        subst h
        exact ⟨[(.d t4 false)], by kernel_rfl, by kernel_rfl⟩
    · refine Run.regN hX [(3, .b true), (8, .b false)] 200 [8] [] ⟨[(8, (.d t4 false))], []⟩ [(decide (a0 < a2)) = true, (decide (a1 < a3)) = false] (by kernel_rfl) (by kernel_rfl) ⟨hb0, hb1, trivial⟩ ?_
      refine Run.retN (by kernel_rfl) ?_
      replace h := Option.some.inj h
      subst h
      exact ⟨[(.d t4 false)], by kernel_rfl, by kernel_rfl⟩
  · refine Run.regN hX [(3, .b false)] 200 [8] [] ⟨[(8, (.d t4 false))], []⟩ [(decide (a0 < a2)) = false] (by kernel_rfl) (by kernel_rfl) ⟨hb0, trivial⟩ ?_
    refine Run.retN (by kernel_rfl) ?_
    replace h := Option.some.inj h
    subst h
    exact ⟨[(.d t4 false)], by kernel_rfl, by kernel_rfl⟩

/-! ## f50 -/

noncomputable def c_50 : Code := body0 Go.Proofs.Try.f50

def fin50 (r : Bool) : Ex → St → Prop := endK X0 [.tmp 4] [4] (.d t4 r)

def F50 (a0 : Int) (a1 : Int) : Option (Bool) :=
  (bif (decide (a1 ≤ a0)) then
    some (decide (a0 ≤ (10000000 : Int)))
  else
    some false)

theorem c50 {a0 : Int} {a1 : Int} {r : Bool} (h : F50 a0 a1 = some r) : CallPure Pg 50 [(.d t2 a0), (.d t2 a1)] (.d t4 r) := by
  refine callPureN hX c_50 12 [.tmp 4] [4] Go.Proofs.Try.func50 (by kernel_rfl) (by kernel_rfl) (by kernel_rfl) (Nat.le_of_ble_eq_true rfl) rfl rfl ?_
  show Run Pg 12 c_50 ⟨[(0, (.d t2 a0)), (1, (.d t2 a1))], []⟩ (fin50 r)
  unfold F50 at h
  refine Run.regN hX [] 100 [0, 1] [] ⟨[(0, (.d t2 a0)), (1, (.d t2 a1))], []⟩ [] (by kernel_rfl) (by kernel_rfl) trivial ?_
  rcases bif_elim h with ⟨hb0, h⟩ | ⟨hb0, h⟩
  · refine Run.regN hX [(3, .b true)] 200 [4] [] ⟨[(4, (.d t4 (decide (a0 ≤ (10000000 : Int)))))], []⟩ [(decide (a1 ≤ a0)) = true] (by kernel_rfl) (by kernel_rfl) ⟨hb0, trivial⟩ ?_
    refine Run.retN (by kernel_rfl) ?_
    replace h := Option.some.inj h
    subst h
    exact ⟨[(.d t4 (decide (a0 ≤ (10000000 : Int))))], by kernel_rfl, by kernel_rfl⟩
  · refine Run.regN hX [(3, .b false)] 200 [4] [] ⟨[(4, (.d t4 false))], []⟩ [(decide (a1 ≤ a0)) = false] (by kernel_rfl) (by kernel_rfl) ⟨hb0, trivial⟩ ?_
    refine Run.retN (by kernel_rfl) ?_
    replace h := Option.some.inj h
    subst h
    exact ⟨[(.d t4 false)], by kernel_rfl, by kernel_rfl⟩

/-! ## f51 -/

noncomputable def c_51 : Code := body0 Go.Proofs.Try.f51

def fin51 (r : Int) : Ex → St → Prop := endK X0 [.tmp 2] [2] (.d t2 r)

def F51 (a0 : Int × Int × Int × Int × Int × Int × (List (Int × Int × Int × Int × Int)) × Int) : Option (Int) :=
  some (wrapI .i64 ((wrapI .i64 (0 - a0.2.2.2.2.1)) - a0.2.2.2.2.2.1))

theorem c51 {a0 : Int × Int × Int × Int × Int × Int × (List (Int × Int × Int × Int × Int)) × Int} {r : Int} (h : F51 a0 = some r) : CallPure Pg 51 [(.d t23 a0)] (.d t2 r) := by
  refine callPureN hX c_51 9 [.tmp 2] [2] Go.Proofs.Try.func51 (by kernel_rfl) (by kernel_rfl) (by kernel_rfl) (Nat.le_of_ble_eq_true rfl) rfl rfl ?_
  show Run Pg 9 c_51 ⟨[(0, (.d t23 a0))], []⟩ (fin51 r)
  unfold F51 at h
  refine Run.regN hX [] 100 [1] [100] ⟨[(1, (.ptr 100 0))], [(100, (.box (.vcons (.d t23 a0) .vnil)))]⟩ [] (by kernel_rfl) (by kernel_rfl) trivial ?_
  refine Run.regN hX [] 200 [2] [] ⟨[(2, (.d t2 (wrapI .i64 ((wrapI .i64 (0 - a0.2.2.2.2.1)) - a0.2.2.2.2.2.1))))], []⟩ [] (by kernel_rfl) (by kernel_rfl) trivial ?_
  refine Run.retN (by kernel_rfl) ?_
  replace h := Option.some.inj h
  subst h
  exact ⟨[(.d t2 (wrapI .i64 ((wrapI .i64 (0 - a0.2.2.2.2.1)) - a0.2.2.2.2.2.1)))], by kernel_rfl, by kernel_rfl⟩

/-! ## f23 -/

noncomputable def c_23 : Code := body0 Go.Proofs.Try.f23

def fin23 (r : Int) : Ex → St → Prop := endK X0 [.tmp 2] [32] (.d t2 r)

def f23_l0_post (x5 : List (Int × Int × Int × Int × Int)) (x6 : Int) (x8 : Int × Int × Int × Int × Int × Int × (List (Int × Int × Int × Int × Int)) × Int) : ((Unit) ⊕ (Int)) → Ex → St → Prop
  | .inl o, x, s => x = .out 0 ∧ s = ⟨[], []⟩
  | .inr o, x, s => x = .ret ∧ fin23  o x s

def f23_l0_b (x5 : List (Int × Int × Int × Int × Int)) (x6 : Int) (x8 : Int × Int × Int × Int × Int × Int × (List (Int × Int × Int × Int × Int)) × Int) (again : Int → Option ((Unit) ⊕ (Int))) : Int → Option ((Unit) ⊕ (Int))
  | x7 =>
    (bif (decide (x7 < x6)) then
      gd (0 ≤ x7) <|
      gd (x7 < ((List.length x5 : Nat) : Int)) <|
      (F49 (List.getD x5 (toN x7) ((0 : Int), (0 : Int), (0 : Int), (0 : Int), (0 : Int))).1 (List.getD x5 (toN x7) ((0 : Int), (0 : Int), (0 : Int), (0 : Int), (0 : Int))).2.1 (List.getD x5 (toN x7) ((0 : Int), (0 : Int), (0 : Int), (0 : Int), (0 : Int))).2.2.1 (List.getD x5 (toN x7) ((0 : Int), (0 : Int), (0 : Int), (0 : Int), (0 : Int))).2.2.2.1).bind fun y12 =>
      (bif (!y12) then
        some (.inr (1 : Int))
      else
        (F51 x8).bind fun y13 =>
        (F50 (List.getD x5 (toN x7) ((0 : Int), (0 : Int), (0 : Int), (0 : Int), (0 : Int))).2.2.2.2 (max2i y13 (-10000000 : Int))).bind fun y14 =>
        (bif (!y14) then
          some (.inr (1 : Int))
        else
          (bif (decide (x8.2.2.2.2.2.2.2 ≤ (List.getD x5 (toN x7) ((0 : Int), (0 : Int), (0 : Int), (0 : Int), (0 : Int))).2.2.2.2)) then
            some (.inr (1 : Int))
          else
            again (wrapI .i64 (x7 + (1 : Int))))))
    else
      some (.inl ()))

def f23_l0 (x5 : List (Int × Int × Int × Int × Int)) (x6 : Int) (x8 : Int × Int × Int × Int × Int × Int × (List (Int × Int × Int × Int × Int)) × Int) : Nat → Int → Option ((Unit) ⊕ (Int)) := loopF (f23_l0_b x5 x6 x8)

theorem f23_l0_ok (x5 : List (Int × Int × Int × Int × Int)) (x6 : Int) (x8 : Int × Int × Int × Int × Int × Int × (List (Int × Int × Int × Int × Int)) × Int) (k : Nat) (x7 : Int) {out : ((Unit) ⊕ (Int))} (h : f23_l0 x5 x6 x8 k x7 = some out) : Run Pg 73 (bk1 (sq2 (sq1 (sq2 (sq2 c_23))))) ⟨[(1, (.ptr 100 0)), (40, (.d t22 x5)), (41, (.d t2 x6)), (42, (.d t2 x7))], [(100, (.box (.vcons (.d t23 x8) .vnil)))]⟩ (f23_l0_post x5 x6 x8 out) := by
  refine Run.loopN (by kernel_rfl) (fun m s => ∃ x7, s = ⟨[(1, (.ptr 100 0)), (40, (.d t22 x5)), (41, (.d t2 x6)), (42, (.d t2 x7))], [(100, (.box (.vcons (.d t23 x8) .vnil)))]⟩ ∧ f23_l0 x5 x6 x8 m x7 = some out) ?_ k ⟨x7,  rfl, h⟩
  rintro m s ⟨x7,  rfl, h⟩
  cases m with
  | zero => cases h
  | succ m =>
  replace h : f23_l0_b x5 x6 x8 (f23_l0 x5 x6 x8 m) x7 = some out := h
  unfold f23_l0_b at h
  refine Run.regN hX [] 500 [1, 40, 41, 42, 43] [100] ⟨[(1, (.ptr 100 0)), (40, (.d t22 x5)), (41, (.d t2 x6)), (42, (.d t2 x7)), (43, (.d t4 (decide (x7 < x6))))], [(100, (.box (.vcons (.d t23 x8) .vnil)))]⟩ [] (by kernel_rfl) (by kernel_rfl) trivial ?_
  refine Run.seqN (by kernel_rfl) ?_
  refine Run.condN (decide (x7 < x6)) (by kernel_rfl) (fun hb => ?_) (fun hb => ?_)
  · replace h := bif_t h hb
    refine Run.skipN (by kernel_rfl) ?_
    show Run Pg 73 _ _ _
    refine Run.seqN (by kernel_rfl) ?_
    refine Run.blockN 1 (by kernel_rfl) ?_
    obtain ⟨g_0, h⟩ := gd_elim h
    obtain ⟨g_1, h⟩ := gd_elim h
    refine Run.regN hX [] 600 [1, 4, 40, 41, 42] [100, 602] ⟨[(1, (.ptr 100 0)), (4, (.ptr 602 0)), (40, (.d t22 x5)), (41, (.d t2 x6)), (42, (.d t2 x7))], [(100, (.box (.vcons (.d t23 x8) .vnil))), (602, (.box (.vcons (.d t55 (List.getD x5 (toN x7) ((0 : Int), (0 : Int), (0 : Int), (0 : Int), (0 : Int)))) .vnil)))]⟩ [(0 ≤ x7), (x7 < ((List.length x5 : Nat) : Int))] (by kernel_rfl) (by kernel_rfl) ⟨g_0, g_1, trivial⟩ ?_
    obtain ⟨y12, h_y12, h⟩ := bnd_elim h
    rcases bif_elim h with ⟨hb1, h⟩ | ⟨hb1, h⟩
    · refine Run.regN hX [(8, .call (.d t4 y12)), (10, .b true)] 700 [1, 40, 41, 42, 71] [100] ⟨[(1, (.ptr 100 0)), (40, (.d t22 x5)), (41, (.d t2 x6)), (42, (.d t2 x7)), (71, (.d t4 true))], [(100, (.box (.vcons (.d t23 x8) .vnil)))]⟩ [CallPure Pg 49 [(.d t2 (List.getD x5 (toN x7) ((0 : Int), (0 : Int), (0 : Int), (0 : Int), (0 : Int))).1), (.d t2 (List.getD x5 (toN x7) ((0 : Int), (0 : Int), (0 : Int), (0 : Int), (0 : Int))).2.1), (.d t2 (List.getD x5 (toN x7) ((0 : Int), (0 : Int), (0 : Int), (0 : Int), (0 : Int))).2.2.1), (.d t2 (List.getD x5 (toN x7) ((0 : Int), (0 : Int), (0 : Int), (0 : Int), (0 : Int))).2.2.2.1)] (.d t4 y12), (!y12) = true] (by kernel_rfl) (by kernel_rfl) ⟨(c49 h_y12), hb1, trivial⟩ ?_
      refine Run.condN true (by kernel_rfl) (fun hb => ?_) (fun hb => (by cases hb))
      refine Run.regN hX [] 800 [2] [] ⟨[(2, (.d t2 (1 : Int)))], []⟩ [] (by kernel_rfl) (by kernel_rfl) trivial ?_
      refine Run.retN (by kernel_rfl) ?_
      replace h := Option.some.inj h
      subst h
      exact ⟨rfl, [(.d t2 (1 : Int))], by kernel_rfl, by kernel_rfl⟩
    · obtain ⟨y13, h_y13, h⟩ := bnd_elim h
      obtain ⟨y14, h_y14, h⟩ := bnd_elim h
      rcases bif_elim h with ⟨hb4, h⟩ | ⟨hb4, h⟩
      · refine Run.regN hX [(8, .call (.d t4 y12)), (10, .b false), (14, .call (.d t2 y13)), (16, .call (.d t4 y14)), (19, .b true)] 700 [1, 40, 41, 42, 71] [100] ⟨[(1, (.ptr 100 0)), (40, (.d t22 x5)), (41, (.d t2 x6)), (42, (.d t2 x7)), (71, (.d t4 true))], [(100, (.box (.vcons (.d t23 x8) .vnil)))]⟩ [CallPure Pg 49 [(.d t2 (List.getD x5 (toN x7) ((0 : Int), (0 : Int), (0 : Int), (0 : Int), (0 : Int))).1), (.d t2 (List.getD x5 (toN x7) ((0 : Int), (0 : Int), (0 : Int), (0 : Int), (0 : Int))).2.1), (.d t2 (List.getD x5 (toN x7) ((0 : Int), (0 : Int), (0 : Int), (0 : Int), (0 : Int))).2.2.1), (.d t2 (List.getD x5 (toN x7) ((0 : Int), (0 : Int), (0 : Int), (0 : Int), (0 : Int))).2.2.2.1)] (.d t4 y12), (!y12) = false, CallPure Pg 51 [(.d t23 x8)] (.d t2 y13), CallPure Pg 50 [(.d t2 (List.getD x5 (toN x7) ((0 : Int), (0 : Int), (0 : Int), (0 : Int), (0 : Int))).2.2.2.2), (.d t2 (max2i y13 (-10000000 : Int)))] (.d t4 y14), (!y14) = true] (by kernel_rfl) (by kernel_rfl) ⟨(c49 h_y12), hb1, (c51 h_y13), (c50 h_y14), hb4, trivial⟩ ?_
        refine Run.condN true (by kernel_rfl) (fun hb => ?_) (fun hb => (by cases hb))
        refine Run.regN hX [] 800 [2] [] ⟨[(2, (.d t2 (1 : Int)))], []⟩ [] (by kernel_rfl) (by kernel_rfl) trivial ?_
        refine Run.retN (by kernel_rfl) ?_
        replace h := Option.some.inj h
        subst h
        exact ⟨rfl, [(.d t2 (1 : Int))], by kernel_rfl, by kernel_rfl⟩
      · refine Run.regN hX [(8, .call (.d t4 y12)), (10, .b false), (14, .call (.d t2 y13)), (16, .call (.d t4 y14)), (19, .b false)] 700 [1, 40, 41, 42, 71] [100] ⟨[(1, (.ptr 100 0)), (40, (.d t22 x5)), (41, (.d t2 x6)), (42, (.d t2 x7)), (71, (.d t4 (decide (x8.2.2.2.2.2.2.2 ≤ (List.getD x5 (toN x7) ((0 : Int), (0 : Int), (0 : Int), (0 : Int), (0 : Int))).2.2.2.2))))], [(100, (.box (.vcons (.d t23 x8) .vnil)))]⟩ [CallPure Pg 49 [(.d t2 (List.getD x5 (toN x7) ((0 : Int), (0 : Int), (0 : Int), (0 : Int), (0 : Int))).1), (.d t2 (List.getD x5 (toN x7) ((0 : Int), (0 : Int), (0 : Int), (0 : Int), (0 : Int))).2.1), (.d t2 (List.getD x5 (toN x7) ((0 : Int), (0 : Int), (0 : Int), (0 : Int), (0 : Int))).2.2.1), (.d t2 (List.getD x5 (toN x7) ((0 : Int), (0 : Int), (0 : Int), (0 : Int), (0 : Int))).2.2.2.1)] (.d t4 y12), (!y12) = false, CallPure Pg 51 [(.d t23 x8)] (.d t2 y13), CallPure Pg 50 [(.d t2 (List.getD x5 (toN x7) ((0 : Int), (0 : Int), (0 : Int), (0 : Int), (0 : Int))).2.2.2.2), (.d t2 (max2i y13 (-10000000 : Int)))] (.d t4 y14), (!y14) = false] (by kernel_rfl) (by kernel_rfl) ⟨(c49 h_y12), hb1, (c51 h_y13), (c50 h_y14), hb4, trivial⟩ ?_
        refine Run.condN (decide (x8.2.2.2.2.2.2.2 ≤ (List.getD x5 (toN x7) ((0 : Int), (0 : Int), (0 : Int), (0 : Int), (0 : Int))).2.2.2.2)) (by kernel_rfl) (fun hb => ?_) (fun hb => ?_)
        · replace h := bif_t h hb
          refine Run.regN hX [] 800 [2] [] ⟨[(2, (.d t2 (1 : Int)))], []⟩ [] (by kernel_rfl) (by kernel_rfl) trivial ?_
          refine Run.retN (by kernel_rfl) ?_
          replace h := Option.some.inj h
          subst h
          exact ⟨rfl, [(.d t2 (1 : Int))], by kernel_rfl, by kernel_rfl⟩
        · replace h := bif_f h hb
          refine Run.skipN (by kernel_rfl) ?_
          show Run Pg 73 _ _ _
          refine Run.regE hX [] 900 [1, 40, 41, 42] [100] ⟨[(1, (.ptr 100 0)), (40, (.d t22 x5)), (41, (.d t2 x6)), (42, (.d t2 (wrapI .i64 (x7 + (1 : Int)))))], [(100, (.box (.vcons (.d t23 x8) .vnil)))]⟩ [] (by kernel_rfl) trivial ?_
          exact ⟨m, Nat.lt_succ_self m, _, rfl, h⟩
  · replace h := bif_f h hb
    refine Run.keep (s' := ⟨[], []⟩) [] [] (by kernel_rfl) ?_
    refine Run.exitN 0 (by kernel_rfl) ?_
    replace h := Option.some.inj h
    subst h
    exact ⟨rfl, by kernel_rfl⟩

def F23 (a0 : Int × Int × Int × Int × Int × Int × (List (Int × Int × Int × Int × Int)) × Int) : Option (Int) :=
  (F49 a0.1 a0.2.1 a0.2.2.1 a0.2.2.2.1).bind fun y1 =>
  (bif (!y1) then
    some (1 : Int)
  else
    (F50 a0.2.2.2.2.1 (1 : Int)).bind fun y2 =>
    (bif (!y2) then
      some (1 : Int)
    else
      (F50 a0.2.2.2.2.2.1 (0 : Int)).bind fun y3 =>
      (bif (!y3) then
        some (1 : Int)
      else
        (F50 a0.2.2.2.2.2.2.2 (1 : Int)).bind fun y4 =>
        (bif (!y4) then
          some (1 : Int)
        else
          (bif (decide ((50 : Int) < (ofN (List.length a0.2.2.2.2.2.2.1)))) then
            some (1 : Int)
          else
            ((f23_l0 a0.2.2.2.2.2.2.1 (ofN (List.length a0.2.2.2.2.2.2.1)) a0 (2 + List.length a0.2.2.2.2.2.2.1) (0 : Int)).bind fun o15 => match o15 with
              | .inl o16 =>
                  some (0 : Int)
              | .inr o17 =>
                  some o17))))))

theorem c23 {a0 : Int × Int × Int × Int × Int × Int × (List (Int × Int × Int × Int × Int)) × Int} {r : Int} (h : F23 a0 = some r) : CallPure Pg 23 [(.d t23 a0)] (.d t2 r) := by
  refine callPureN hX c_23 73 [.tmp 2] [32] Go.Proofs.Try.func23 (by kernel_rfl) (by kernel_rfl) (by kernel_rfl) (Nat.le_of_ble_eq_true rfl) rfl rfl ?_
  show Run Pg 73 c_23 ⟨[(0, (.d t23 a0))], []⟩ (fin23 r)
  unfold F23 at h
  refine Run.regN hX [] 100 [1] [100] ⟨[(1, (.ptr 100 0))], [(100, (.box (.vcons (.d t23 a0) .vnil)))]⟩ [] (by kernel_rfl) (by kernel_rfl) trivial ?_
  refine Run.seqN (by kernel_rfl) ?_
  obtain ⟨y1, h_y1, h⟩ := bnd_elim h
  rcases bif_elim h with ⟨hb1, h⟩ | ⟨hb1, h⟩
  · refine Run.regN hX [(8, .call (.d t4 y1)), (10, .b true)] 200 [1, 38] [100] ⟨[(1, (.ptr 100 0)), (38, (.d t4 true))], [(100, (.box (.vcons (.d t23 a0) .vnil)))]⟩ [CallPure Pg 49 [(.d t2 a0.1), (.d t2 a0.2.1), (.d t2 a0.2.2.1), (.d t2 a0.2.2.2.1)] (.d t4 y1), (!y1) = true] (by kernel_rfl) (by kernel_rfl) ⟨(c49 h_y1), hb1, trivial⟩ ?_
    refine Run.condN true (by kernel_rfl) (fun hb => ?_) (fun hb => (by cases hb))
    refine Run.regN hX [] 300 [2] [] ⟨[(2, (.d t2 (1 : Int)))], []⟩ [] (by kernel_rfl) (by kernel_rfl) trivial ?_
    refine Run.retN (by kernel_rfl) ?_
    replace h := Option.some.inj h
    subst h
    exact ⟨[(.d t2 (1 : Int))], by kernel_rfl, by kernel_rfl⟩
  · obtain ⟨y2, h_y2, h⟩ := bnd_elim h
    rcases bif_elim h with ⟨hb3, h⟩ | ⟨hb3, h⟩
    · refine Run.regN hX [(8, .call (.d t4 y1)), (10, .b false), (13, .call (.d t4 y2)), (16, .b true)] 200 [1, 38] [100] ⟨[(1, (.ptr 100 0)), (38, (.d t4 true))], [(100, (.box (.vcons (.d t23 a0) .vnil)))]⟩ [CallPure Pg 49 [(.d t2 a0.1), (.d t2 a0.2.1), (.d t2 a0.2.2.1), (.d t2 a0.2.2.2.1)] (.d t4 y1), (!y1) = false, CallPure Pg 50 [(.d t2 a0.2.2.2.2.1), (.d t2 (1 : Int))] (.d t4 y2), (!y2) = true] (by kernel_rfl) (by kernel_rfl) ⟨(c49 h_y1), hb1, (c50 h_y2), hb3, trivial⟩ ?_
      refine Run.condN true (by kernel_rfl) (fun hb => ?_) (fun hb => (by cases hb))
      refine Run.regN hX [] 300 [2] [] ⟨[(2, (.d t2 (1 : Int)))], []⟩ [] (by kernel_rfl) (by kernel_rfl) trivial ?_
      refine Run.retN (by kernel_rfl) ?_
      replace h := Option.some.inj h
      subst h
      exact ⟨[(.d t2 (1 : Int))], by kernel_rfl, by kernel_rfl⟩
    · obtain ⟨y3, h_y3, h⟩ := bnd_elim h
      rcases bif_elim h with ⟨hb5, h⟩ | ⟨hb5, h⟩
      · refine Run.regN hX [(8, .call (.d t4 y1)), (10, .b false), (13, .call (.d t4 y2)), (16, .b false), (19, .call (.d t4 y3)), (22, .b true)] 200 [1, 38] [100] ⟨[(1, (.ptr 100 0)), (38, (.d t4 true))], [(100, (.box (.vcons (.d t23 a0) .vnil)))]⟩ [CallPure Pg 49 [(.d t2 a0.1), (.d t2 a0.2.1), (.d t2 a0.2.2.1), (.d t2 a0.2.2.2.1)] (.d t4 y1), (!y1) = false, CallPure Pg 50 [(.d t2 a0.2.2.2.2.1), (.d t2 (1 : Int))] (.d t4 y2), (!y2) = false, CallPure Pg 50 [(.d t2 a0.2.2.2.2.2.1), (.d t2 (0 : Int))] (.d t4 y3), (!y3) = true] (by kernel_rfl) (by kernel_rfl) ⟨(c49 h_y1), hb1, (c50 h_y2), hb3, (c50 h_y3), hb5, trivial⟩ ?_
        refine Run.condN true (by kernel_rfl) (fun hb => ?_) (fun hb => (by cases hb))
        refine Run.regN hX [] 300 [2] [] ⟨[(2, (.d t2 (1 : Int)))], []⟩ [] (by kernel_rfl) (by kernel_rfl) trivial ?_
        refine Run.retN (by kernel_rfl) ?_
        replace h := Option.some.inj h
        subst h
        exact ⟨[(.d t2 (1 : Int))], by kernel_rfl, by kernel_rfl⟩
      · obtain ⟨y4, h_y4, h⟩ := bnd_elim h
        rcases bif_elim h with ⟨hb7, h⟩ | ⟨hb7, h⟩
        · refine Run.regN hX [(8, .call (.d t4 y1)), (10, .b false), (13, .call (.d t4 y2)), (16, .b false), (19, .call (.d t4 y3)), (22, .b false), (25, .call (.d t4 y4)), (28, .b true)] 200 [1, 38] [100] ⟨[(1, (.ptr 100 0)), (38, (.d t4 true))], [(100, (.box (.vcons (.d t23 a0) .vnil)))]⟩ [CallPure Pg 49 [(.d t2 a0.1), (.d t2 a0.2.1), (.d t2 a0.2.2.1), (.d t2 a0.2.2.2.1)] (.d t4 y1), (!y1) = false, CallPure Pg 50 [(.d t2 a0.2.2.2.2.1), (.d t2 (1 : Int))] (.d t4 y2), (!y2) = false, CallPure Pg 50 [(.d t2 a0.2.2.2.2.2.1), (.d t2 (0 : Int))] (.d t4 y3), (!y3) = false, CallPure Pg 50 [(.d t2 a0.2.2.2.2.2.2.2), (.d t2 (1 : Int))] (.d t4 y4), (!y4) = true] (by kernel_rfl) (by kernel_rfl) ⟨(c49 h_y1), hb1, (c50 h_y2), hb3, (c50 h_y3), hb5, (c50 h_y4), hb7, trivial⟩ ?_
          refine Run.condN true (by kernel_rfl) (fun hb => ?_) (fun hb => (by cases hb))
          refine Run.regN hX [] 300 [2] [] ⟨[(2, (.d t2 (1 : Int)))], []⟩ [] (by kernel_rfl) (by kernel_rfl) trivial ?_
          refine Run.retN (by kernel_rfl) ?_
          replace h := Option.some.inj h
          subst h
          exact ⟨[(.d t2 (1 : Int))], by kernel_rfl, by kernel_rfl⟩
        · refine Run.regN hX [(8, .call (.d t4 y1)), (10, .b false), (13, .call (.d t4 y2)), (16, .b false), (19, .call (.d t4 y3)), (22, .b false), (25, .call (.d t4 y4)), (28, .b false)] 200 [1, 38] [100] ⟨[(1, (.ptr 100 0)), (38, (.d t4 (decide ((50 : Int) < (ofN (List.length a0.2.2.2.2.2.2.1))))))], [(100, (.box (.vcons (.d t23 a0) .vnil)))]⟩ [CallPure Pg 49 [(.d t2 a0.1), (.d t2 a0.2.1), (.d t2 a0.2.2.1), (.d t2 a0.2.2.2.1)] (.d t4 y1), (!y1) = false, CallPure Pg 50 [(.d t2 a0.2.2.2.2.1), (.d t2 (1 : Int))] (.d t4 y2), (!y2) = false, CallPure Pg 50 [(.d t2 a0.2.2.2.2.2.1), (.d t2 (0 : Int))] (.d t4 y3), (!y3) = false, CallPure Pg 50 [(.d t2 a0.2.2.2.2.2.2.2), (.d t2 (1 : Int))] (.d t4 y4), (!y4) = false] (by kernel_rfl) (by kernel_rfl) ⟨(c49 h_y1), hb1, (c50 h_y2), hb3, (c50 h_y3), hb5, (c50 h_y4), hb7, trivial⟩ ?_
          refine Run.condN (decide ((50 : Int) < (ofN (List.length a0.2.2.2.2.2.2.1)))) (by kernel_rfl) (fun hb => ?_) (fun hb => ?_)
          · replace h := bif_t h hb
            refine Run.regN hX [] 300 [2] [] ⟨[(2, (.d t2 (1 : Int)))], []⟩ [] (by kernel_rfl) (by kernel_rfl) trivial ?_
            refine Run.retN (by kernel_rfl) ?_
            replace h := Option.some.inj h
            subst h
            exact ⟨[(.d t2 (1 : Int))], by kernel_rfl, by kernel_rfl⟩
          · replace h := bif_f h hb
            refine Run.skipN (by kernel_rfl) ?_
            show Run Pg 73 _ _ _
            refine Run.seqN (by kernel_rfl) ?_
            refine Run.regN hX [] 400 [1, 40, 41, 42] [100] ⟨[(1, (.ptr 100 0)), (40, (.d t22 a0.2.2.2.2.2.2.1)), (41, (.d t2 (ofN (List.length a0.2.2.2.2.2.2.1)))), (42, (.d t2 (0 : Int)))], [(100, (.box (.vcons (.d t23 a0) .vnil)))]⟩ [] (by kernel_rfl) (by kernel_rfl) trivial ?_
            refine Run.blockN 0 (by kernel_rfl) ?_
            obtain ⟨o15, h_o15, h⟩ := bnd_elim h
            refine Run.mono (f23_l0_ok a0.2.2.2.2.2.2.1 (ofN (List.length a0.2.2.2.2.2.2.1)) a0 _ (0 : Int) h_o15) ?_
            rcases o15 with o16 | o17
            · rintro x s ⟨hx, hs⟩
              subst hx
              subst hs
              show Run Pg 73 _ _ _
              refine Run.regN hX [] 1000 [2] [] ⟨[(2, (.d t2 (0 : Int)))], []⟩ [] (by kernel_rfl) (by kernel_rfl) trivial ?_
              refine Run.retN (by kernel_rfl) ?_
              replace h := Option.some.inj h
              subst h
              exact ⟨[(.d t2 (0 : Int))], by kernel_rfl, by kernel_rfl⟩
            · rintro x s ⟨hx, hr⟩
              subst hx
              replace h := Option.some.inj h
              subst h
              exact hr

/-! ## f25 -/

noncomputable def c_25 : Code := body0 Go.Proofs.Try.f25

def fin25 (r : (Int × Int)) : Ex → St → Prop := endK X0 [.cell 2 38] [38] (.d t28 r)

def F25 (a0 : Int × Int × Int) : Option ((Int × Int)) :=
  some (a0.1, a0.2.1)

theorem c25 {a0 : Int × Int × Int} {r : (Int × Int)} (h : F25 a0 = some r) : CallPure Pg 25 [(.d t25 a0)] (.d t28 r) := by
  refine callPureN hX c_25 8 [.cell 2 38] [38] Go.Proofs.Try.func25 (by kernel_rfl) (by kernel_rfl) (by kernel_rfl) (Nat.le_of_ble_eq_true rfl) rfl rfl ?_
  show Run Pg 8 c_25 ⟨[(0, (.d t25 a0))], []⟩ (fin25 r)
  unfold F25 at h
  refine Run.regN hX [] 100 [1, 2] [100, 101] ⟨[(1, (.ptr 100 0)), (2, (.ptr 101 0))], [(100, (.box (.vcons (.d t25 a0) .vnil))), (101, (.box (.vcons (.d t28 ((0 : Int), (0 : Int))) .vnil)))]⟩ [] (by kernel_rfl) (by kernel_rfl) trivial ?_
  refine Run.regN hX [] 200 [2] [101] ⟨[(2, (.ptr 101 0))], [(101, (.box (.vcons (.d t28 (a0.1, a0.2.1)) .vnil)))]⟩ [] (by kernel_rfl) (by kernel_rfl) trivial ?_
  refine Run.retN (by kernel_rfl) ?_
  replace h := Option.some.inj h
  subst h
  exact ⟨[(.d t28 (a0.1, a0.2.1))], by kernel_rfl, by kernel_rfl⟩

/-! ## f52 -/

noncomputable def c_52 : Code := body0 Go.Proofs.Try.f52

def fin52s0 (a2 : Int × Int × Int) (a3 : List (Int × (Int × Int × Int) × (Int × Int) × Int)) (r : (Int × Int × Int) × (List (Int × (Int × Int × Int) × (Int × Int) × Int))) : Ex → St → Prop := endS X0 [] [] (.tup .vnil) [(1000000, (.box (.vcons (.d t25 r.1) (.vcons (.vec 900001 t66) .vnil)))), (900001, (.vec 67 t66 r.2))]

def f52s0_c0_post (x1 : Int) (x2 : Bool) (x3 : Int × Int × Int) (x4 : Int × (Int × Int × Int) × (Int × Int) × Int) (x5 : List (Int × (Int × Int × Int) × (Int × Int) × Int)) (x6 : Int × Int × Int) : ((Int × (Int × Int × Int) × (Int × Int) × Int)) → Ex → St → Prop
  | o, x, s => x = .nrm ∧ s = ⟨[(0, (.ptr 1000000 0)), (4, (.ptr 100 0)), (6, (.ptr 302 0))], [(100, (.box (.vcons (.d t25 x3) .vnil))), (302, (.box (.vcons (.d t66 o) .vnil))), (900001, (.vec 67 t66 x5)), (1000000, (.box (.vcons (.d t25 x6) (.vcons (.vec 900001 t66) .vnil))))]⟩

def f52s0_c0 (x1 : Int) (x2 : Bool) (x4 : Int × (Int × Int × Int) × (Int × Int) × Int) : Option ((Int × (Int × Int × Int) × (Int × Int) × Int)) :=
  (bif x2 then
    some ((2 : Int), x4.2.1, x4.2.2.1, x1)
  else
    some x4)

theorem f52s0_c0_ok (x1 : Int) (x2 : Bool) (x3 : Int × Int × Int) (x4 : Int × (Int × Int × Int) × (Int × Int) × Int) (x5 : List (Int × (Int × Int × Int) × (Int × Int) × Int)) (x6 : Int × Int × Int) {out : ((Int × (Int × Int × Int) × (Int × Int) × Int))} (h : f52s0_c0 x1 x2 x4 = some out) : Run Pg 34 (sq2 (sq1 (sq2 (sq2 (sq2 c_52))))) ⟨[(0, (.ptr 1000000 0)), (2, (.d t2 x1)), (4, (.ptr 100 0)), (6, (.ptr 302 0)), (16, (.d t4 x2))], [(100, (.box (.vcons (.d t25 x3) .vnil))), (302, (.box (.vcons (.d t66 x4) .vnil))), (900001, (.vec 67 t66 x5)), (1000000, (.box (.vcons (.d t25 x6) (.vcons (.vec 900001 t66) .vnil))))]⟩ (f52s0_c0_post x1 x2 x3 x4 x5 x6 out) := by
  unfold f52s0_c0 at h
  refine Run.condN x2 (by kernel_rfl) (fun hb => ?_) (fun hb => ?_)
  · replace h := bif_t h hb
    refine Run.regE hX [] 500 [0, 4, 6] [100, 302, 900001, 1000000] ⟨[(0, (.ptr 1000000 0)), (4, (.ptr 100 0)), (6, (.ptr 302 0))], [(100, (.box (.vcons (.d t25 x3) .vnil))), (302, (.box (.vcons (.d t66 ((2 : Int), x4.2.1, x4.2.2.1, x1)) .vnil))), (900001, (.vec 67 t66 x5)), (1000000, (.box (.vcons (.d t25 x6) (.vcons (.vec 900001 t66) .vnil))))]⟩ [] (by kernel_rfl) trivial ?_
    replace h := Option.some.inj h
    subst h
    exact ⟨rfl, by kernel_rfl⟩
  · replace h := bif_f h hb
    refine Run.keep (s' := ⟨[(0, (.ptr 1000000 0)), (4, (.ptr 100 0)), (6, (.ptr 302 0))], [(100, (.box (.vcons (.d t25 x3) .vnil))), (302, (.box (.vcons (.d t66 x4) .vnil))), (900001, (.vec 67 t66 x5)), (1000000, (.box (.vcons (.d t25 x6) (.vcons (.vec 900001 t66) .vnil))))]⟩) [0, 4, 6] [100, 302, 900001, 1000000] (by kernel_rfl) ?_
    refine Run.skipN (by kernel_rfl) ?_
    replace h := Option.some.inj h
    subst h
    exact ⟨rfl, by kernel_rfl⟩

def F52s0 (a0 : Int × Int × Int) (a1 : Int) (a2 : Int × Int × Int) (a3 : List (Int × (Int × Int × Int) × (Int × Int) × Int)) : Option ((Int × Int × Int) × (List (Int × (Int × Int × Int) × (Int × Int) × Int))) :=
  (bif (eqD t25 a0 a2) then
    some (a2, a3)
  else
    ((f52s0_c0 a1 (decide ((0 : Int) < a1)) ((1 : Int), a0, ((0 : Int), (0 : Int)), (0 : Int))).bind fun o7 =>
      gd (List.length (a3 ++ ([o7] : List (Int × (Int × Int × Int) × (Int × Int) × Int))) ≤ 1073741824) <|
      some (a0, (a3 ++ ([o7] : List (Int × (Int × Int × Int) × (Int × Int) × Int))))))

theorem c52s0 {a0 : Int × Int × Int} {a1 : Int} {a2 : Int × Int × Int} {a3 : List (Int × (Int × Int × Int) × (Int × Int) × Int)} {r : (Int × Int × Int) × (List (Int × (Int × Int × Int) × (Int × Int) × Int))} (h : F52s0 a0 a1 a2 a3 = some r) : CallSt Pg 52 [(.ptr 1000000 0), (.d t25 a0), (.d t2 a1)] [(1000000, (.box (.vcons (.d t25 a2) (.vcons (.vec 900001 t66) .vnil)))), (900001, (.vec 67 t66 a3))] (.tup .vnil) [(1000000, (.box (.vcons (.d t25 r.1) (.vcons (.vec 900001 t66) .vnil)))), (900001, (.vec 67 t66 r.2))] := by
  refine callStN hX c_52 34 [] [] Go.Proofs.Try.func52 (by kernel_rfl) (by kernel_rfl) (by kernel_rfl) (Nat.le_of_ble_eq_true rfl) rfl ?_
  show Run Pg 34 c_52 ⟨[(0, (.ptr 1000000 0)), (1, (.d t25 a0)), (2, (.d t2 a1))], [(1000000, (.box (.vcons (.d t25 a2) (.vcons (.vec 900001 t66) .vnil)))), (900001, (.vec 67 t66 a3))]⟩ (fin52s0 a2 a3 r)
  unfold F52s0 at h
  refine Run.regN hX [] 100 [0, 2, 4] [100, 900001, 1000000] ⟨[(0, (.ptr 1000000 0)), (2, (.d t2 a1)), (4, (.ptr 100 0))], [(100, (.box (.vcons (.d t25 a0) .vnil))), (900001, (.vec 67 t66 a3)), (1000000, (.box (.vcons (.d t25 a2) (.vcons (.vec 900001 t66) .vnil))))]⟩ [] (by kernel_rfl) (by kernel_rfl) trivial ?_
  refine Run.seqN (by kernel_rfl) ?_
  refine Run.regN hX [] 200 [0, 2, 4, 12] [100, 900001, 1000000] ⟨[(0, (.ptr 1000000 0)), (2, (.d t2 a1)), (4, (.ptr 100 0)), (12, (.d t4 (eqD t25 a0 a2)))], [(100, (.box (.vcons (.d t25 a0) .vnil))), (900001, (.vec 67 t66 a3)), (1000000, (.box (.vcons (.d t25 a2) (.vcons (.vec 900001 t66) .vnil))))]⟩ [] (by kernel_rfl) (by kernel_rfl) trivial ?_
  refine Run.condN (eqD t25 a0 a2) (by kernel_rfl) (fun hb => ?_) (fun hb => ?_)
  · replace h := bif_t h hb
    refine Run.retN (by kernel_rfl) ?_
    replace h := Option.some.inj h
    subst h
    exact ⟨[], ⟨[], [(1000000, (.box (.vcons (.d t25 a2) (.vcons (.vec 900001 t66) .vnil)))), (900001, (.vec 67 t66 a3))]⟩, by kernel_rfl, by kernel_rfl, by kernel_rfl, by kernel_rfl⟩
  · replace h := bif_f h hb
    refine Run.skipN (by kernel_rfl) ?_
    show Run Pg 34 _ _ _
    refine Run.regN hX [] 300 [0, 2, 4, 6] [100, 302, 900001, 1000000] ⟨[(0, (.ptr 1000000 0)), (2, (.d t2 a1)), (4, (.ptr 100 0)), (6, (.ptr 302 0))], [(100, (.box (.vcons (.d t25 a0) .vnil))), (302, (.box (.vcons (.d t66 ((1 : Int), a0, ((0 : Int), (0 : Int)), (0 : Int))) .vnil))), (900001, (.vec 67 t66 a3)), (1000000, (.box (.vcons (.d t25 a2) (.vcons (.vec 900001 t66) .vnil))))]⟩ [] (by kernel_rfl) (by kernel_rfl) trivial ?_
    refine Run.seqN (by kernel_rfl) ?_
    refine Run.regN hX [] 400 [0, 2, 4, 6, 16] [100, 302, 900001, 1000000] ⟨[(0, (.ptr 1000000 0)), (2, (.d t2 a1)), (4, (.ptr 100 0)), (6, (.ptr 302 0)), (16, (.d t4 (decide ((0 : Int) < a1))))], [(100, (.box (.vcons (.d t25 a0) .vnil))), (302, (.box (.vcons (.d t66 ((1 : Int), a0, ((0 : Int), (0 : Int)), (0 : Int))) .vnil))), (900001, (.vec 67 t66 a3)), (1000000, (.box (.vcons (.d t25 a2) (.vcons (.vec 900001 t66) .vnil))))]⟩ [] (by kernel_rfl) (by kernel_rfl) trivial ?_
    obtain ⟨o7, h_o7, h⟩ := bnd_elim h
    refine Run.mono (f52s0_c0_ok a1 (decide ((0 : Int) < a1)) a0 ((1 : Int), a0, ((0 : Int), (0 : Int)), (0 : Int)) a3 a2 h_o7) ?_
    rintro x s ⟨hx, hs⟩
    subst hx
    subst hs
    show Run Pg 34 _ _ _
    obtain ⟨g_0, h⟩ := gd_elim h
    refine Run.regE hX [] 600 [] [900001, 1000000] ⟨[], [(900001, (.vec 67 t66 (a3 ++ ([o7] : List (Int × (Int × Int × Int) × (Int × Int) × Int))))), (1000000, (.box (.vcons (.d t25 a0) (.vcons (.vec 900001 t66) .vnil))))]⟩ [(List.length (a3 ++ ([o7] : List (Int × (Int × Int × Int) × (Int × Int) × Int))) ≤ 1073741824)] (by kernel_rfl) ⟨g_0, trivial⟩ ?_
    replace h := Option.some.inj h
    subst h
    exact ⟨[], ⟨[], [(1000000, (.box (.vcons (.d t25 a0) (.vcons (.vec 900001 t66) .vnil)))), (900001, (.vec 67 t66 (a3 ++ ([o7] : List (Int × (Int × Int × Int) × (Int × Int) × Int)))))]⟩, by kernel_rfl, by kernel_rfl, by kernel_rfl, by kernel_rfl⟩

/-! ## f26 -/

noncomputable def c_26 : Code := body0 Go.Proofs.Try.f26

def fin26s0 (a1 : Int × Int × Int) (a2 : List (Int × (Int × Int × Int) × (Int × Int) × Int)) (r : (Int × Int × Int) × (List (Int × (Int × Int × Int) × (Int × Int) × Int))) : Ex → St → Prop := endS X0 [] [] (.tup .vnil) [(1000000, (.box (.vcons (.d t25 r.1) (.vcons (.vec 900001 t66) .vnil)))), (900001, (.vec 67 t66 r.2))]

def F26s0 (a0 : Int) (a1 : Int × Int × Int) (a2 : List (Int × (Int × Int × Int) × (Int × Int) × Int)) : Option ((Int × Int × Int) × (List (Int × (Int × Int × Int) × (Int × Int) × Int))) :=
  (F52s0 (a1.1, a1.2.1, a0) (0 : Int) a1 a2).bind fun y1 =>
  some (y1.1, y1.2)

theorem c26s0 {a0 : Int} {a1 : Int × Int × Int} {a2 : List (Int × (Int × Int × Int) × (Int × Int) × Int)} {r : (Int × Int × Int) × (List (Int × (Int × Int × Int) × (Int × Int) × Int))} (h : F26s0 a0 a1 a2 = some r) : CallSt Pg 26 [(.ptr 1000000 0), (.d t2 a0)] [(1000000, (.box (.vcons (.d t25 a1) (.vcons (.vec 900001 t66) .vnil)))), (900001, (.vec 67 t66 a2))] (.tup .vnil) [(1000000, (.box (.vcons (.d t25 r.1) (.vcons (.vec 900001 t66) .vnil)))), (900001, (.vec 67 t66 r.2))] := by
  refine callStN hX c_26 18 [] [] Go.Proofs.Try.func26 (by kernel_rfl) (by kernel_rfl) (by kernel_rfl) (Nat.le_of_ble_eq_true rfl) rfl ?_
  show Run Pg 18 c_26 ⟨[(0, (.ptr 1000000 0)), (1, (.d t2 a0))], [(1000000, (.box (.vcons (.d t25 a1) (.vcons (.vec 900001 t66) .vnil)))), (900001, (.vec 67 t66 a2))]⟩ (fin26s0 a1 a2 r)
  unfold F26s0 at h
  obtain ⟨y1, h_y1, h⟩ := bnd_elim h
  refine Run.regE hX [(13, .callS [(1000000, (.box (.vcons (.d t25 a1) (.vcons (.vec 900001 t66) .vnil)))), (900001, (.vec 67 t66 a2))] [(.ptr 1000000 0), (.d t25 (a1.1, a1.2.1, a0)), (.d t2 (0 : Int))] [(1000000, 1000000), (900001, 900001)] (.tup .vnil) [(1000000, (.box (.vcons (.d t25 y1.1) (.vcons (.vec 900001 t66) .vnil)))), (900001, (.vec 67 t66 y1.2))])] 100 [] [900001, 1000000] ⟨[], [(900001, (.vec 67 t66 y1.2)), (1000000, (.box (.vcons (.d t25 y1.1) (.vcons (.vec 900001 t66) .vnil))))]⟩ [(([(.ptr 1000000 0), (.d t25 (a1.1, a1.2.1, a0)), (.d t2 (0 : Int))] : List V) = List.map (V.ren (renL [(1000000, 1000000), (900001, 900001)] 113)) [(.ptr 1000000 0), (.d t25 (a1.1, a1.2.1, a0)), (.d t2 (0 : Int))]), CallSt Pg 52 [(.ptr 1000000 0), (.d t25 (a1.1, a1.2.1, a0)), (.d t2 (0 : Int))] [(1000000, (.box (.vcons (.d t25 a1) (.vcons (.vec 900001 t66) .vnil)))), (900001, (.vec 67 t66 a2))] (.tup .vnil) [(1000000, (.box (.vcons (.d t25 y1.1) (.vcons (.vec 900001 t66) .vnil)))), (900001, (.vec 67 t66 y1.2))], ((some (.box (.vcons (.d t25 a1) (.vcons (.vec 900001 t66) .vnil))) : Option E) = some (E.ren (renL [(1000000, 1000000), (900001, 900001)] 113) (.box (.vcons (.d t25 a1) (.vcons (.vec 900001 t66) .vnil))))), ((some (.vec 67 t66 a2) : Option E) = some (E.ren (renL [(1000000, 1000000), (900001, 900001)] 113) (.vec 67 t66 a2)))] (by kernel_rfl) ⟨(by kernel_rfl), (c52s0 h_y1), (by kernel_rfl), (by kernel_rfl), trivial⟩ ?_
  replace h := Option.some.inj h
  subst h
  exact ⟨[], ⟨[], [(1000000, (.box (.vcons (.d t25 y1.1) (.vcons (.vec 900001 t66) .vnil)))), (900001, (.vec 67 t66 y1.2))]⟩, by kernel_rfl, by kernel_rfl, by kernel_rfl, by kernel_rfl⟩

/-! ## f27 -/

noncomputable def c_27 : Code := body0 Go.Proofs.Try.f27

def fin27s0 (a1 : Int × Int × Int) (a2 : List (Int × (Int × Int × Int) × (Int × Int) × Int)) (r : (Int × Int × Int) × (List (Int × (Int × Int × Int) × (Int × Int) × Int))) : Ex → St → Prop := endS X0 [] [] (.tup .vnil) [(1000000, (.box (.vcons (.d t25 r.1) (.vcons (.vec 900001 t66) .vnil)))), (900001, (.vec 67 t66 r.2))]

def F27s0 (a0 : Int × Int) (a1 : Int × Int × Int) (a2 : List (Int × (Int × Int × Int) × (Int × Int) × Int)) : Option ((Int × Int × Int) × (List (Int × (Int × Int × Int) × (Int × Int) × Int))) :=
  (F52s0 (a0.1, a0.2, a1.2.2) (0 : Int) a1 a2).bind fun y1 =>
  some (y1.1, y1.2)

theorem c27s0 {a0 : Int × Int} {a1 : Int × Int × Int} {a2 : List (Int × (Int × Int × Int) × (Int × Int) × Int)} {r : (Int × Int × Int) × (List (Int × (Int × Int × Int) × (Int × Int) × Int))} (h : F27s0 a0 a1 a2 = some r) : CallSt Pg 27 [(.ptr 1000000 0), (.d t28 a0)] [(1000000, (.box (.vcons (.d t25 a1) (.vcons (.vec 900001 t66) .vnil)))), (900001, (.vec 67 t66 a2))] (.tup .vnil) [(1000000, (.box (.vcons (.d t25 r.1) (.vcons (.vec 900001 t66) .vnil)))), (900001, (.vec 67 t66 r.2))] := by
  refine callStN hX c_27 16 [] [] Go.Proofs.Try.func27 (by kernel_rfl) (by kernel_rfl) (by kernel_rfl) (Nat.le_of_ble_eq_true rfl) rfl ?_
  show Run Pg 16 c_27 ⟨[(0, (.ptr 1000000 0)), (1, (.d t28 a0))], [(1000000, (.box (.vcons (.d t25 a1) (.vcons (.vec 900001 t66) .vnil)))), (900001, (.vec 67 t66 a2))]⟩ (fin27s0 a1 a2 r)
  unfold F27s0 at h
  refine Run.regN hX [] 100 [0, 3] [100, 900001, 1000000] ⟨[(0, (.ptr 1000000 0)), (3, (.ptr 100 0))], [(100, (.box (.vcons (.d t28 a0) .vnil))), (900001, (.vec 67 t66 a2)), (1000000, (.box (.vcons (.d t25 a1) (.vcons (.vec 900001 t66) .vnil))))]⟩ [] (by kernel_rfl) (by kernel_rfl) trivial ?_
  obtain ⟨y1, h_y1, h⟩ := bnd_elim h
  refine Run.regE hX [(11, .callS [(1000000, (.box (.vcons (.d t25 a1) (.vcons (.vec 900001 t66) .vnil)))), (900001, (.vec 67 t66 a2))] [(.ptr 1000000 0), (.d t25 (a0.1, a0.2, a1.2.2)), (.d t2 (0 : Int))] [(1000000, 1000000), (900001, 900001)] (.tup .vnil) [(1000000, (.box (.vcons (.d t25 y1.1) (.vcons (.vec 900001 t66) .vnil)))), (900001, (.vec 67 t66 y1.2))])] 200 [] [900001, 1000000] ⟨[], [(900001, (.vec 67 t66 y1.2)), (1000000, (.box (.vcons (.d t25 y1.1) (.vcons (.vec 900001 t66) .vnil))))]⟩ [(([(.ptr 1000000 0), (.d t25 (a0.1, a0.2, a1.2.2)), (.d t2 (0 : Int))] : List V) = List.map (V.ren (renL [(1000000, 1000000), (900001, 900001)] 211)) [(.ptr 1000000 0), (.d t25 (a0.1, a0.2, a1.2.2)), (.d t2 (0 : Int))]), CallSt Pg 52 [(.ptr 1000000 0), (.d t25 (a0.1, a0.2, a1.2.2)), (.d t2 (0 : Int))] [(1000000, (.box (.vcons (.d t25 a1) (.vcons (.vec 900001 t66) .vnil)))), (900001, (.vec 67 t66 a2))] (.tup .vnil) [(1000000, (.box (.vcons (.d t25 y1.1) (.vcons (.vec 900001 t66) .vnil)))), (900001, (.vec 67 t66 y1.2))], ((some (.box (.vcons (.d t25 a1) (.vcons (.vec 900001 t66) .vnil))) : Option E) = some (E.ren (renL [(1000000, 1000000), (900001, 900001)] 211) (.box (.vcons (.d t25 a1) (.vcons (.vec 900001 t66) .vnil))))), ((some (.vec 67 t66 a2) : Option E) = some (E.ren (renL [(1000000, 1000000), (900001, 900001)] 211) (.vec 67 t66 a2)))] (by kernel_rfl) ⟨(by kernel_rfl), (c52s0 h_y1), (by kernel_rfl), (by kernel_rfl), trivial⟩ ?_
  replace h := Option.some.inj h
  subst h
  exact ⟨[], ⟨[], [(1000000, (.box (.vcons (.d t25 y1.1) (.vcons (.vec 900001 t66) .vnil)))), (900001, (.vec 67 t66 y1.2))]⟩, by kernel_rfl, by kernel_rfl, by kernel_rfl, by kernel_rfl⟩

/-! ## f28 -/

noncomputable def c_28 : Code := body0 Go.Proofs.Try.f28

def fin28s0 (a2 : Int × Int × Int) (a3 : List (Int × (Int × Int × Int) × (Int × Int) × Int)) (r : (Int × Int × Int) × (List (Int × (Int × Int × Int) × (Int × Int) × Int))) : Ex → St → Prop := endS X0 [] [] (.tup .vnil) [(1000000, (.box (.vcons (.d t25 r.1) (.vcons (.vec 900001 t66) .vnil)))), (900001, (.vec 67 t66 r.2))]

def f28s0_c0_post (x1 : Int) (x2 : Int) (x3 : Int) (x4 : Bool) (x5 : List (Int × (Int × Int × Int) × (Int × Int) × Int)) (x6 : Int × Int × Int) : ((List (Int × (Int × Int × Int) × (Int × Int) × Int)) × (Int × Int × Int)) → Ex → St → Prop
  | o, x, s => x = .nrm ∧ s = ⟨[(0, (.ptr 1000000 0)), (1, (.d t2 x1)), (2, (.d t2 x2))], [(900001, (.vec 67 t66 o.1)), (1000000, (.box (.vcons (.d t25 o.2) (.vcons (.vec 900001 t66) .vnil))))]⟩

def f28s0_c0 (x3 : Int) (x4 : Bool) (x5 : List (Int × (Int × Int × Int) × (Int × Int) × Int)) (x6 : Int × Int × Int) : Option ((List (Int × (Int × Int × Int) × (Int × Int) × Int)) × (Int × Int × Int)) :=
  (bif x4 then
    (F26s0 x3 x6 x5).bind fun y8 =>
    some (y8.2, y8.1)
  else
    some (x5, x6))

theorem f28s0_c0_ok (x1 : Int) (x2 : Int) (x3 : Int) (x4 : Bool) (x5 : List (Int × (Int × Int × Int) × (Int × Int) × Int)) (x6 : Int × Int × Int) {out : ((List (Int × (Int × Int × Int) × (Int × Int) × Int)) × (Int × Int × Int))} (h : f28s0_c0 x3 x4 x5 x6 = some out) : Run Pg 45 (sq2 (sq2 (sq1 c_28))) ⟨[(0, (.ptr 1000000 0)), (1, (.d t2 x1)), (2, (.d t2 x2)), (6, (.d t2 x3)), (15, (.d t4 x4))], [(900001, (.vec 67 t66 x5)), (1000000, (.box (.vcons (.d t25 x6) (.vcons (.vec 900001 t66) .vnil))))]⟩ (f28s0_c0_post x1 x2 x3 x4 x5 x6 out) := by
  unfold f28s0_c0 at h
  refine Run.condN x4 (by kernel_rfl) (fun hb => ?_) (fun hb => ?_)
  · replace h := bif_t h hb
    obtain ⟨y8, h_y8, h⟩ := bnd_elim h
    refine Run.regE hX [(2, .callS [(1000000, (.box (.vcons (.d t25 x6) (.vcons (.vec 900001 t66) .vnil)))), (900001, (.vec 67 t66 x5))] [(.ptr 1000000 0), (.d t2 x3)] [(1000000, 1000000), (900001, 900001)] (.tup .vnil) [(1000000, (.box (.vcons (.d t25 y8.1) (.vcons (.vec 900001 t66) .vnil)))), (900001, (.vec 67 t66 y8.2))])] 300 [0, 1, 2] [900001, 1000000] ⟨[(0, (.ptr 1000000 0)), (1, (.d t2 x1)), (2, (.d t2 x2))], [(900001, (.vec 67 t66 y8.2)), (1000000, (.box (.vcons (.d t25 y8.1) (.vcons (.vec 900001 t66) .vnil))))]⟩ [(([(.ptr 1000000 0), (.d t2 x3)] : List V) = List.map (V.ren (renL [(1000000, 1000000), (900001, 900001)] 302)) [(.ptr 1000000 0), (.d t2 x3)]), CallSt Pg 26 [(.ptr 1000000 0), (.d t2 x3)] [(1000000, (.box (.vcons (.d t25 x6) (.vcons (.vec 900001 t66) .vnil)))), (900001, (.vec 67 t66 x5))] (.tup .vnil) [(1000000, (.box (.vcons (.d t25 y8.1) (.vcons (.vec 900001 t66) .vnil)))), (900001, (.vec 67 t66 y8.2))], ((some (.box (.vcons (.d t25 x6) (.vcons (.vec 900001 t66) .vnil))) : Option E) = some (E.ren (renL [(1000000, 1000000), (900001, 900001)] 302) (.box (.vcons (.d t25 x6) (.vcons (.vec 900001 t66) .vnil))))), ((some (.vec 67 t66 x5) : Option E) = some (E.ren (renL [(1000000, 1000000), (900001, 900001)] 302) (.vec 67 t66 x5)))] (by kernel_rfl) ⟨(by kernel_rfl), (c26s0 h_y8), (by kernel_rfl), (by kernel_rfl), trivial⟩ ?_
    replace h := Option.some.inj h
    subst h
    exact ⟨rfl, by kernel_rfl⟩
  · replace h := bif_f h hb
    refine Run.keep (s' := ⟨[(0, (.ptr 1000000 0)), (1, (.d t2 x1)), (2, (.d t2 x2))], [(900001, (.vec 67 t66 x5)), (1000000, (.box (.vcons (.d t25 x6) (.vcons (.vec 900001 t66) .vnil))))]⟩) [0, 1, 2] [900001, 1000000] (by kernel_rfl) ?_
    refine Run.skipN (by kernel_rfl) ?_
    replace h := Option.some.inj h
    subst h
    exact ⟨rfl, by kernel_rfl⟩

def f28s0_c1_post (x10 : Int) (x11 : Int) (x12 : Bool) (x13 : List (Int × (Int × Int × Int) × (Int × Int) × Int)) (x14 : Int × Int × Int) : ((List (Int × (Int × Int × Int) × (Int × Int) × Int)) × (Int × Int × Int)) → Ex → St → Prop
  | o, x, s => x = .nrm ∧ s = ⟨[], [(900001, (.vec 67 t66 o.1)), (1000000, (.box (.vcons (.d t25 o.2) (.vcons (.vec 900001 t66) .vnil))))]⟩

def f28s0_c1 (x10 : Int) (x11 : Int) (x12 : Bool) (x13 : List (Int × (Int × Int × Int) × (Int × Int) × Int)) (x14 : Int × Int × Int) : Option ((List (Int × (Int × Int × Int) × (Int × Int) × Int)) × (Int × Int × Int)) :=
  (bif x12 then
    (F52s0 (x14.1, x14.2.1, x10) x11 x14 x13).bind fun y16 =>
    some (y16.2, y16.1)
  else
    some (x13, x14))

theorem f28s0_c1_ok (x10 : Int) (x11 : Int) (x12 : Bool) (x13 : List (Int × (Int × Int × Int) × (Int × Int) × Int)) (x14 : Int × Int × Int) {out : ((List (Int × (Int × Int × Int) × (Int × Int) × Int)) × (Int × Int × Int))} (h : f28s0_c1 x10 x11 x12 x13 x14 = some out) : Run Pg 45 (sq2 (sq2 c_28)) ⟨[(0, (.ptr 1000000 0)), (1, (.d t2 x10)), (2, (.d t2 x11)), (29, (.d t4 x12))], [(900001, (.vec 67 t66 x13)), (1000000, (.box (.vcons (.d t25 x14) (.vcons (.vec 900001 t66) .vnil))))]⟩ (f28s0_c1_post x10 x11 x12 x13 x14 out) := by
  unfold f28s0_c1 at h
  refine Run.condN x12 (by kernel_rfl) (fun hb => ?_) (fun hb => ?_)
  · replace h := bif_t h hb
    obtain ⟨y16, h_y16, h⟩ := bnd_elim h
    refine Run.regE hX [(14, .callS [(1000000, (.box (.vcons (.d t25 x14) (.vcons (.vec 900001 t66) .vnil)))), (900001, (.vec 67 t66 x13))] [(.ptr 1000000 0), (.d t25 (x14.1, x14.2.1, x10)), (.d t2 x11)] [(1000000, 1000000), (900001, 900001)] (.tup .vnil) [(1000000, (.box (.vcons (.d t25 y16.1) (.vcons (.vec 900001 t66) .vnil)))), (900001, (.vec 67 t66 y16.2))])] 500 [] [900001, 1000000] ⟨[], [(900001, (.vec 67 t66 y16.2)), (1000000, (.box (.vcons (.d t25 y16.1) (.vcons (.vec 900001 t66) .vnil))))]⟩ [(([(.ptr 1000000 0), (.d t25 (x14.1, x14.2.1, x10)), (.d t2 x11)] : List V) = List.map (V.ren (renL [(1000000, 1000000), (900001, 900001)] 514)) [(.ptr 1000000 0), (.d t25 (x14.1, x14.2.1, x10)), (.d t2 x11)]), CallSt Pg 52 [(.ptr 1000000 0), (.d t25 (x14.1, x14.2.1, x10)), (.d t2 x11)] [(1000000, (.box (.vcons (.d t25 x14) (.vcons (.vec 900001 t66) .vnil)))), (900001, (.vec 67 t66 x13))] (.tup .vnil) [(1000000, (.box (.vcons (.d t25 y16.1) (.vcons (.vec 900001 t66) .vnil)))), (900001, (.vec 67 t66 y16.2))], ((some (.box (.vcons (.d t25 x14) (.vcons (.vec 900001 t66) .vnil))) : Option E) = some (E.ren (renL [(1000000, 1000000), (900001, 900001)] 514) (.box (.vcons (.d t25 x14) (.vcons (.vec 900001 t66) .vnil))))), ((some (.vec 67 t66 x13) : Option E) = some (E.ren (renL [(1000000, 1000000), (900001, 900001)] 514) (.vec 67 t66 x13)))] (by kernel_rfl) ⟨(by kernel_rfl), (c52s0 h_y16), (by kernel_rfl), (by kernel_rfl), trivial⟩ ?_
    replace h := Option.some.inj h
    subst h
    exact ⟨rfl, by kernel_rfl⟩
  · replace h := bif_f h hb
    refine Run.keep (s' := ⟨[], [(900001, (.vec 67 t66 x13)), (1000000, (.box (.vcons (.d t25 x14) (.vcons (.vec 900001 t66) .vnil))))]⟩) [] [900001, 1000000] (by kernel_rfl) ?_
    refine Run.skipN (by kernel_rfl) ?_
    replace h := Option.some.inj h
    subst h
    exact ⟨rfl, by kernel_rfl⟩

def F28s0 (a0 : Int) (a1 : Int) (a2 : Int × Int × Int) (a3 : List (Int × (Int × Int × Int) × (Int × Int) × Int)) : Option ((Int × Int × Int) × (List (Int × (Int × Int × Int) × (Int × Int) × Int))) :=
  ((f28s0_c0 (max2i (1000 : Int) a0) (decide ((max2i (1000 : Int) a0) < a2.2.2)) a3 a2).bind fun o9 =>
    (bif (decide (a0 < (1000 : Int))) then
      ((f28s0_c1 a0 a1 (decide (a0 < o9.2.2.2)) o9.1 o9.2).bind fun o17 =>
        some (o17.2, o17.1))
    else
      some (o9.2, o9.1)))

theorem c28s0 {a0 : Int} {a1 : Int} {a2 : Int × Int × Int} {a3 : List (Int × (Int × Int × Int) × (Int × Int) × Int)} {r : (Int × Int × Int) × (List (Int × (Int × Int × Int) × (Int × Int) × Int))} (h : F28s0 a0 a1 a2 a3 = some r) : CallSt Pg 28 [(.ptr 1000000 0), (.d t2 a0), (.d t2 a1)] [(1000000, (.box (.vcons (.d t25 a2) (.vcons (.vec 900001 t66) .vnil)))), (900001, (.vec 67 t66 a3))] (.tup .vnil) [(1000000, (.box (.vcons (.d t25 r.1) (.vcons (.vec 900001 t66) .vnil)))), (900001, (.vec 67 t66 r.2))] := by
  refine callStN hX c_28 45 [] [] Go.Proofs.Try.func28 (by kernel_rfl) (by kernel_rfl) (by kernel_rfl) (Nat.le_of_ble_eq_true rfl) rfl ?_
  show Run Pg 45 c_28 ⟨[(0, (.ptr 1000000 0)), (1, (.d t2 a0)), (2, (.d t2 a1))], [(1000000, (.box (.vcons (.d t25 a2) (.vcons (.vec 900001 t66) .vnil)))), (900001, (.vec 67 t66 a3))]⟩ (fin28s0 a2 a3 r)
  unfold F28s0 at h
  refine Run.seqN (by kernel_rfl) ?_
  refine Run.regN hX [] 100 [0, 1, 2, 6] [900001, 1000000] ⟨[(0, (.ptr 1000000 0)), (1, (.d t2 a0)), (2, (.d t2 a1)), (6, (.d t2 (max2i (1000 : Int) a0)))], [(900001, (.vec 67 t66 a3)), (1000000, (.box (.vcons (.d t25 a2) (.vcons (.vec 900001 t66) .vnil))))]⟩ [] (by kernel_rfl) (by kernel_rfl) trivial ?_
  refine Run.regN hX [] 200 [0, 1, 2, 6, 15] [900001, 1000000] ⟨[(0, (.ptr 1000000 0)), (1, (.d t2 a0)), (2, (.d t2 a1)), (6, (.d t2 (max2i (1000 : Int) a0))), (15, (.d t4 (decide ((max2i (1000 : Int) a0) < a2.2.2))))], [(900001, (.vec 67 t66 a3)), (1000000, (.box (.vcons (.d t25 a2) (.vcons (.vec 900001 t66) .vnil))))]⟩ [] (by kernel_rfl) (by kernel_rfl) trivial ?_
  obtain ⟨o9, h_o9, h⟩ := bnd_elim h
  refine Run.mono (f28s0_c0_ok a0 a1 (max2i (1000 : Int) a0) (decide ((max2i (1000 : Int) a0) < a2.2.2)) a3 a2 h_o9) ?_
  rintro x s ⟨hx, hs⟩
  subst hx
  subst hs
  show Run Pg 45 _ _ _
  rcases bif_elim h with ⟨hb0, h⟩ | ⟨hb0, h⟩
  · refine Run.regN hX [(2, .b true)] 400 [0, 1, 2, 29] [900001, 1000000] ⟨[(0, (.ptr 1000000 0)), (1, (.d t2 a0)), (2, (.d t2 a1)), (29, (.d t4 (decide (a0 < o9.2.2.2))))], [(900001, (.vec 67 t66 o9.1)), (1000000, (.box (.vcons (.d t25 o9.2) (.vcons (.vec 900001 t66) .vnil))))]⟩ [(decide (a0 < (1000 : Int))) = true] (by kernel_rfl) (by kernel_rfl) ⟨hb0, trivial⟩ ?_
    obtain ⟨o17, h_o17, h⟩ := bnd_elim h
    refine Run.mono (f28s0_c1_ok a0 a1 (decide (a0 < o9.2.2.2)) o9.1 o9.2 h_o17) ?_
    rintro x s ⟨hx, hs⟩
    subst hx
    subst hs
    replace h := Option.some.inj h
    subst h
    exact ⟨[], ⟨[], [(1000000, (.box (.vcons (.d t25 o17.2) (.vcons (.vec 900001 t66) .vnil)))), (900001, (.vec 67 t66 o17.1))]⟩, by kernel_rfl, by kernel_rfl, by kernel_rfl, by kernel_rfl⟩
  · refine Run.regN hX [(2, .b false)] 400 [0, 1, 2, 29] [900001, 1000000] ⟨[(0, (.ptr 1000000 0)), (1, (.d t2 a0)), (2, (.d t2 a1)), (29, (.d t4 false))], [(900001, (.vec 67 t66 o9.1)), (1000000, (.box (.vcons (.d t25 o9.2) (.vcons (.vec 900001 t66) .vnil))))]⟩ [(decide (a0 < (1000 : Int))) = false] (by kernel_rfl) (by kernel_rfl) ⟨hb0, trivial⟩ ?_
    refine Run.condN false (by kernel_rfl) (fun hb => (by cases hb)) (fun hb => ?_)
    refine Run.skipN (by kernel_rfl) ?_
    replace h := Option.some.inj h
    subst h
    exact ⟨[], ⟨[], [(1000000, (.box (.vcons (.d t25 o9.2) (.vcons (.vec 900001 t66) .vnil)))), (900001, (.vec 67 t66 o9.1))]⟩, by kernel_rfl, by kernel_rfl, by kernel_rfl, by kernel_rfl⟩

/-! ## f7 -/

noncomputable def c_7 : Code := body0 Go.Proofs.Try.f7

def fin7 (r : (List (Int × (Int × Int × Int) × (Int × Int) × Int)) × Int) : Ex → St → Prop := endK X0 [.tmp 10, .tmp 11] [31, 32] (.tup (.vcons (.d t31 r.1) (.vcons (.d t2 r.2) .vnil)))

def f7_c1_post (x34 : Int) (x35 : Bool) (x36 : Int × Int × Int) (x37 : Int × Int × Int) : ((Int × Int × Int) × (List (Int × (Int × Int × Int) × (Int × Int) × Int))) → Ex → St → Prop
  | o, x, s => x = .nrm ∧ s = ⟨[(13, (.ptr 902 0))], [(902, (.box (.vcons (.d t25 o.1) (.vcons (.vec 91403 t66) .vnil)))), (91403, (.vec 67 t66 o.2))]⟩

def f7_c1 (x34 : Int) (x35 : Bool) (x36 : Int × Int × Int) (x37 : Int × Int × Int) : Option ((Int × Int × Int) × (List (Int × (Int × Int × Int) × (Int × Int) × Int))) :=
  (bif x35 then
    (F26s0 x36.2.2 x37 ([] : List (Int × (Int × Int × Int) × (Int × Int) × Int))).bind fun y40 =>
    some (y40.1, y40.2)
  else
    (F28s0 x36.2.2 x34 x37 ([] : List (Int × (Int × Int × Int) × (Int × Int) × Int))).bind fun y41 =>
    some (y41.1, y41.2))

theorem f7_c1_ok (x34 : Int) (x35 : Bool) (x36 : Int × Int × Int) (x37 : Int × Int × Int) {out : ((Int × Int × Int) × (List (Int × (Int × Int × Int) × (Int × Int) × Int)))} (h : f7_c1 x34 x35 x36 x37 = some out) : Run Pg 83 (sq2 (cd2 (sq2 (bk1 (sq1 (sq2 (sq2 (sq2 (sq2 (sq2 c_7)))))))))) ⟨[(4, (.d t2 x34)), (7, (.ptr 102 0)), (13, (.ptr 902 0)), (72, (.d t4 x35))], [(102, (.box (.vcons (.d t25 x36) .vnil))), (902, (.box (.vcons (.d t25 x37) (.vcons .nil .vnil))))]⟩ (f7_c1_post x34 x35 x36 x37 out) := by
  unfold f7_c1 at h
  refine Run.condN x35 (by kernel_rfl) (fun hb => ?_) (fun hb => ?_)
  · replace h := bif_t h hb
    refine Run.nameB (s' := ⟨[(4, (.d t2 x34)), (7, (.ptr 102 0)), (13, (.ptr 902 0)), (72, (.d t4 x35))], [(91403, (.vec 67 t66 ([] : List (Int × (Int × Int × Int) × (Int × Int) × Int)))), (102, (.box (.vcons (.d t25 x36) .vnil))), (902, (.box (.vcons (.d t25 x37) (.vcons (.vec 91403 t66) .vnil))))]⟩) 902 1 91403 67 t66 (by kernel_rfl) ?_
    obtain ⟨y40, h_y40, h⟩ := bnd_elim h
    refine Run.regE hX [(2, .callS [(1000000, (.box (.vcons (.d t25 x37) (.vcons (.vec 900001 t66) .vnil)))), (900001, (.vec 67 t66 ([] : List (Int × (Int × Int × Int) × (Int × Int) × Int))))] [(.ptr 1000000 0), (.d t2 x36.2.2)] [(1000000, 902), (900001, 91403)] (.tup .vnil) [(1000000, (.box (.vcons (.d t25 y40.1) (.vcons (.vec 900001 t66) .vnil)))), (900001, (.vec 67 t66 y40.2))])] 1600 [13] [902, 91403] ⟨[(13, (.ptr 902 0))], [(902, (.box (.vcons (.d t25 y40.1) (.vcons (.vec 91403 t66) .vnil)))), (91403, (.vec 67 t66 y40.2))]⟩ [(([(.ptr 902 0), (.d t2 x36.2.2)] : List V) = List.map (V.ren (renL [(1000000, 902), (900001, 91403)] 1602)) [(.ptr 1000000 0), (.d t2 x36.2.2)]), CallSt Pg 26 [(.ptr 1000000 0), (.d t2 x36.2.2)] [(1000000, (.box (.vcons (.d t25 x37) (.vcons (.vec 900001 t66) .vnil)))), (900001, (.vec 67 t66 ([] : List (Int × (Int × Int × Int) × (Int × Int) × Int))))] (.tup .vnil) [(1000000, (.box (.vcons (.d t25 y40.1) (.vcons (.vec 900001 t66) .vnil)))), (900001, (.vec 67 t66 y40.2))], ((some (.box (.vcons (.d t25 x37) (.vcons (.vec 91403 t66) .vnil))) : Option E) = some (E.ren (renL [(1000000, 902), (900001, 91403)] 1602) (.box (.vcons (.d t25 x37) (.vcons (.vec 900001 t66) .vnil))))), ((some (.vec 67 t66 ([] : List (Int × (Int × Int × Int) × (Int × Int) × Int))) : Option E) = some (E.ren (renL [(1000000, 902), (900001, 91403)] 1602) (.vec 67 t66 ([] : List (Int × (Int × Int × Int) × (Int × Int) × Int)))))] (by kernel_rfl) ⟨(by kernel_rfl), (c26s0 h_y40), (by kernel_rfl), (by kernel_rfl), trivial⟩ ?_
    replace h := Option.some.inj h
    subst h
    exact ⟨rfl, by kernel_rfl⟩
  · replace h := bif_f h hb
    refine Run.nameB (s' := ⟨[(4, (.d t2 x34)), (7, (.ptr 102 0)), (13, (.ptr 902 0)), (72, (.d t4 x35))], [(91403, (.vec 67 t66 ([] : List (Int × (Int × Int × Int) × (Int × Int) × Int)))), (102, (.box (.vcons (.d t25 x36) .vnil))), (902, (.box (.vcons (.d t25 x37) (.vcons (.vec 91403 t66) .vnil))))]⟩) 902 1 91403 67 t66 (by kernel_rfl) ?_
    obtain ⟨y41, h_y41, h⟩ := bnd_elim h
    refine Run.regE hX [(3, .callS [(1000000, (.box (.vcons (.d t25 x37) (.vcons (.vec 900001 t66) .vnil)))), (900001, (.vec 67 t66 ([] : List (Int × (Int × Int × Int) × (Int × Int) × Int))))] [(.ptr 1000000 0), (.d t2 x36.2.2), (.d t2 x34)] [(1000000, 902), (900001, 91403)] (.tup .vnil) [(1000000, (.box (.vcons (.d t25 y41.1) (.vcons (.vec 900001 t66) .vnil)))), (900001, (.vec 67 t66 y41.2))])] 1000 [13] [902, 91403] ⟨[(13, (.ptr 902 0))], [(902, (.box (.vcons (.d t25 y41.1) (.vcons (.vec 91403 t66) .vnil)))), (91403, (.vec 67 t66 y41.2))]⟩ [(([(.ptr 902 0), (.d t2 x36.2.2), (.d t2 x34)] : List V) = List.map (V.ren (renL [(1000000, 902), (900001, 91403)] 1003)) [(.ptr 1000000 0), (.d t2 x36.2.2), (.d t2 x34)]), CallSt Pg 28 [(.ptr 1000000 0), (.d t2 x36.2.2), (.d t2 x34)] [(1000000, (.box (.vcons (.d t25 x37) (.vcons (.vec 900001 t66) .vnil)))), (900001, (.vec 67 t66 ([] : List (Int × (Int × Int × Int) × (Int × Int) × Int))))] (.tup .vnil) [(1000000, (.box (.vcons (.d t25 y41.1) (.vcons (.vec 900001 t66) .vnil)))), (900001, (.vec 67 t66 y41.2))], ((some (.box (.vcons (.d t25 x37) (.vcons (.vec 91403 t66) .vnil))) : Option E) = some (E.ren (renL [(1000000, 902), (900001, 91403)] 1003) (.box (.vcons (.d t25 x37) (.vcons (.vec 900001 t66) .vnil))))), ((some (.vec 67 t66 ([] : List (Int × (Int × Int × Int) × (Int × Int) × Int))) : Option E) = some (E.ren (renL [(1000000, 902), (900001, 91403)] 1003) (.vec 67 t66 ([] : List (Int × (Int × Int × Int) × (Int × Int) × Int)))))] (by kernel_rfl) ⟨(by kernel_rfl), (c28s0 h_y41), (by kernel_rfl), (by kernel_rfl), trivial⟩ ?_
    replace h := Option.some.inj h
    subst h
    exact ⟨rfl, by kernel_rfl⟩

def f7_c0_post (x5 : Int) (x6 : Int) (x7 : Bool) (x8 : Int × Int × Int × Int × Int × Int × (List (Int × Int × Int × Int × Int)) × Int) (x9 : Int × Int × Int) (x10 : Int × Int × Int) : ((Int × Int × Int) × (List (Int × (Int × Int × Int) × (Int × Int) × Int))) → Ex → St → Prop
  | o, x, s => x = .nrm ∧ s = ⟨[(13, (.ptr 902 0))], [(902, (.box (.vcons (.d t25 o.1) (.vcons (.vec 91403 t66) .vnil)))), (91403, (.vec 67 t66 o.2))]⟩

def f7_c0 (x5 : Int) (x6 : Int) (x7 : Bool) (x8 : Int × Int × Int × Int × Int × Int × (List (Int × Int × Int × Int × Int)) × Int) (x9 : Int × Int × Int) (x10 : Int × Int × Int) : Option ((Int × Int × Int) × (List (Int × (Int × Int × Int) × (Int × Int) × Int))) :=
  (bif x7 then
    (F25 x9).bind fun y27 =>
    (F25 x10).bind fun y28 =>
    (F9 x8 y27 y28 x5).bind fun y29 =>
    (F26s0 (max2i (max2i y29 x9.2.2) x10.2.2) x9 ([] : List (Int × (Int × Int × Int) × (Int × Int) × Int))).bind fun y30 =>
    (F25 x10).bind fun y31 =>
    (F27s0 y31 y30.1 y30.2).bind fun y32 =>
    (F28s0 x10.2.2 x6 y32.1 y32.2).bind fun y33 =>
    some (y33.1, y33.2)
  else
    ((f7_c1 x6 (decide (x9.2.2 < x10.2.2)) x10 x9).bind fun o42 =>
      some (o42.1, o42.2)))

theorem f7_c0_ok (x5 : Int) (x6 : Int) (x7 : Bool) (x8 : Int × Int × Int × Int × Int × Int × (List (Int × Int × Int × Int × Int)) × Int) (x9 : Int × Int × Int) (x10 : Int × Int × Int) {out : ((Int × Int × Int) × (List (Int × (Int × Int × Int) × (Int × Int) × Int)))} (h : f7_c0 x5 x6 x7 x8 x9 x10 = some out) : Run Pg 83 (sq2 (bk1 (sq1 (sq2 (sq2 (sq2 (sq2 (sq2 c_7)))))))) ⟨[(3, (.d t2 x5)), (4, (.d t2 x6)), (5, (.ptr 100 0)), (6, (.ptr 101 0)), (7, (.ptr 102 0)), (13, (.ptr 902 0)), (46, (.d t4 x7))], [(100, (.box (.vcons (.d t23 x8) .vnil))), (101, (.box (.vcons (.d t25 x9) .vnil))), (102, (.box (.vcons (.d t25 x10) .vnil))), (902, (.box (.vcons (.d t25 x9) (.vcons .nil .vnil))))]⟩ (f7_c0_post x5 x6 x7 x8 x9 x10 out) := by
  unfold f7_c0 at h
  refine Run.condN x7 (by kernel_rfl) (fun hb => ?_) (fun hb => ?_)
  · replace h := bif_t h hb
    refine Run.nameB (s' := ⟨[(3, (.d t2 x5)), (4, (.d t2 x6)), (5, (.ptr 100 0)), (6, (.ptr 101 0)), (7, (.ptr 102 0)), (13, (.ptr 902 0)), (46, (.d t4 x7))], [(91403, (.vec 67 t66 ([] : List (Int × (Int × Int × Int) × (Int × Int) × Int)))), (100, (.box (.vcons (.d t23 x8) .vnil))), (101, (.box (.vcons (.d t25 x9) .vnil))), (102, (.box (.vcons (.d t25 x10) .vnil))), (902, (.box (.vcons (.d t25 x9) (.vcons (.vec 91403 t66) .vnil))))]⟩) 902 1 91403 67 t66 (by kernel_rfl) ?_
    obtain ⟨y27, h_y27, h⟩ := bnd_elim h
    obtain ⟨y28, h_y28, h⟩ := bnd_elim h
    obtain ⟨y29, h_y29, h⟩ := bnd_elim h
    obtain ⟨y30, h_y30, h⟩ := bnd_elim h
    refine Run.regN hX [(2, .call (.d t28 y27)), (4, .call (.d t28 y28)), (6, .call (.d t2 y29)), (12, .callS [(1000000, (.box (.vcons (.d t25 x9) (.vcons (.vec 900001 t66) .vnil)))), (900001, (.vec 67 t66 ([] : List (Int × (Int × Int × Int) × (Int × Int) × Int))))] [(.ptr 1000000 0), (.d t2 (max2i (max2i y29 x9.2.2) x10.2.2))] [(1000000, 902), (900001, 91403)] (.tup .vnil) [(1000000, (.box (.vcons (.d t25 y30.1) (.vcons (.vec 900001 t66) .vnil)))), (900001, (.vec 67 t66 y30.2))])] 1200 [4, 7, 13] [102, 902, 91403] ⟨[(4, (.d t2 x6)), (7, (.ptr 102 0)), (13, (.ptr 902 0))], [(102, (.box (.vcons (.d t25 x10) .vnil))), (902, (.box (.vcons (.d t25 y30.1) (.vcons (.vec 91403 t66) .vnil)))), (91403, (.vec 67 t66 y30.2))]⟩ [CallPure Pg 25 [(.d t25 x9)] (.d t28 y27), CallPure Pg 25 [(.d t25 x10)] (.d t28 y28), CallPure Pg 9 [(.d t23 x8), (.d t28 y27), (.d t28 y28), (.d t2 x5)] (.d t2 y29), (([(.ptr 902 0), (.d t2 (max2i (max2i y29 x9.2.2) x10.2.2))] : List V) = List.map (V.ren (renL [(1000000, 902), (900001, 91403)] 1212)) [(.ptr 1000000 0), (.d t2 (max2i (max2i y29 x9.2.2) x10.2.2))]), CallSt Pg 26 [(.ptr 1000000 0), (.d t2 (max2i (max2i y29 x9.2.2) x10.2.2))] [(1000000, (.box (.vcons (.d t25 x9) (.vcons (.vec 900001 t66) .vnil)))), (900001, (.vec 67 t66 ([] : List (Int × (Int × Int × Int) × (Int × Int) × Int))))] (.tup .vnil) [(1000000, (.box (.vcons (.d t25 y30.1) (.vcons (.vec 900001 t66) .vnil)))), (900001, (.vec 67 t66 y30.2))], ((some (.box (.vcons (.d t25 x9) (.vcons (.vec 91403 t66) .vnil))) : Option E) = some (E.ren (renL [(1000000, 902), (900001, 91403)] 1212) (.box (.vcons (.d t25 x9) (.vcons (.vec 900001 t66) .vnil))))), ((some (.vec 67 t66 ([] : List (Int × (Int × Int × Int) × (Int × Int) × Int))) : Option E) = some (E.ren (renL [(1000000, 902), (900001, 91403)] 1212) (.vec 67 t66 ([] : List (Int × (Int × Int × Int) × (Int × Int) × Int)))))] (by kernel_rfl) (by kernel_rfl) ⟨(c25 h_y27), (c25 h_y28), (c9 h_y29), (by kernel_rfl), (c26s0 h_y30), (by kernel_rfl), (by kernel_rfl), trivial⟩ ?_
    obtain ⟨y31, h_y31, h⟩ := bnd_elim h
    obtain ⟨y32, h_y32, h⟩ := bnd_elim h
    refine Run.regN hX [(1, .call (.d t28 y31)), (2, .callS [(1000000, (.box (.vcons (.d t25 y30.1) (.vcons (.vec 900001 t66) .vnil)))), (900001, (.vec 67 t66 y30.2))] [(.ptr 1000000 0), (.d t28 y31)] [(1000000, 902), (900001, 91403)] (.tup .vnil) [(1000000, (.box (.vcons (.d t25 y32.1) (.vcons (.vec 900001 t66) .vnil)))), (900001, (.vec 67 t66 y32.2))])] 1300 [4, 7, 13] [102, 902, 91403] ⟨[(4, (.d t2 x6)), (7, (.ptr 102 0)), (13, (.ptr 902 0))], [(102, (.box (.vcons (.d t25 x10) .vnil))), (902, (.box (.vcons (.d t25 y32.1) (.vcons (.vec 91403 t66) .vnil)))), (91403, (.vec 67 t66 y32.2))]⟩ [CallPure Pg 25 [(.d t25 x10)] (.d t28 y31), (([(.ptr 902 0), (.d t28 y31)] : List V) = List.map (V.ren (renL [(1000000, 902), (900001, 91403)] 1302)) [(.ptr 1000000 0), (.d t28 y31)]), CallSt Pg 27 [(.ptr 1000000 0), (.d t28 y31)] [(1000000, (.box (.vcons (.d t25 y30.1) (.vcons (.vec 900001 t66) .vnil)))), (900001, (.vec 67 t66 y30.2))] (.tup .vnil) [(1000000, (.box (.vcons (.d t25 y32.1) (.vcons (.vec 900001 t66) .vnil)))), (900001, (.vec 67 t66 y32.2))], ((some (.box (.vcons (.d t25 y30.1) (.vcons (.vec 91403 t66) .vnil))) : Option E) = some (E.ren (renL [(1000000, 902), (900001, 91403)] 1302) (.box (.vcons (.d t25 y30.1) (.vcons (.vec 900001 t66) .vnil))))), ((some (.vec 67 t66 y30.2) : Option E) = some (E.ren (renL [(1000000, 902), (900001, 91403)] 1302) (.vec 67 t66 y30.2)))] (by kernel_rfl) (by kernel_rfl) ⟨(c25 h_y31), (by kernel_rfl), (c27s0 h_y32), (by kernel_rfl), (by kernel_rfl), trivial⟩ ?_
    obtain ⟨y33, h_y33, h⟩ := bnd_elim h
    refine Run.regE hX [(3, .callS [(1000000, (.box (.vcons (.d t25 y32.1) (.vcons (.vec 900001 t66) .vnil)))), (900001, (.vec 67 t66 y32.2))] [(.ptr 1000000 0), (.d t2 x10.2.2), (.d t2 x6)] [(1000000, 902), (900001, 91403)] (.tup .vnil) [(1000000, (.box (.vcons (.d t25 y33.1) (.vcons (.vec 900001 t66) .vnil)))), (900001, (.vec 67 t66 y33.2))])] 1400 [13] [902, 91403] ⟨[(13, (.ptr 902 0))], [(902, (.box (.vcons (.d t25 y33.1) (.vcons (.vec 91403 t66) .vnil)))), (91403, (.vec 67 t66 y33.2))]⟩ [(([(.ptr 902 0), (.d t2 x10.2.2), (.d t2 x6)] : List V) = List.map (V.ren (renL [(1000000, 902), (900001, 91403)] 1403)) [(.ptr 1000000 0), (.d t2 x10.2.2), (.d t2 x6)]), CallSt Pg 28 [(.ptr 1000000 0), (.d t2 x10.2.2), (.d t2 x6)] [(1000000, (.box (.vcons (.d t25 y32.1) (.vcons (.vec 900001 t66) .vnil)))), (900001, (.vec 67 t66 y32.2))] (.tup .vnil) [(1000000, (.box (.vcons (.d t25 y33.1) (.vcons (.vec 900001 t66) .vnil)))), (900001, (.vec 67 t66 y33.2))], ((some (.box (.vcons (.d t25 y32.1) (.vcons (.vec 91403 t66) .vnil))) : Option E) = some (E.ren (renL [(1000000, 902), (900001, 91403)] 1403) (.box (.vcons (.d t25 y32.1) (.vcons (.vec 900001 t66) .vnil))))), ((some (.vec 67 t66 y32.2) : Option E) = some (E.ren (renL [(1000000, 902), (900001, 91403)] 1403) (.vec 67 t66 y32.2)))] (by kernel_rfl) ⟨(by kernel_rfl), (c28s0 h_y33), (by kernel_rfl), (by kernel_rfl), trivial⟩ ?_
    replace h := Option.some.inj h
    subst h
    exact ⟨rfl, by kernel_rfl⟩
  · replace h := bif_f h hb
    refine Run.regN hX [] 1500 [4, 7, 13, 72] [102, 902] ⟨[(4, (.d t2 x6)), (7, (.ptr 102 0)), (13, (.ptr 902 0)), (72, (.d t4 (decide (x9.2.2 < x10.2.2))))], [(102, (.box (.vcons (.d t25 x10) .vnil))), (902, (.box (.vcons (.d t25 x9) (.vcons .nil .vnil))))]⟩ [] (by kernel_rfl) (by kernel_rfl) trivial ?_
    obtain ⟨o42, h_o42, h⟩ := bnd_elim h
    refine Run.mono (f7_c1_ok x6 (decide (x9.2.2 < x10.2.2)) x10 x9 h_o42) ?_
    rintro x s ⟨hx, hs⟩
    subst hx
    subst hs
    replace h := Option.some.inj h
    subst h
    exact ⟨rfl, by kernel_rfl⟩

def F7 (a0 : Int × Int × Int × Int × Int × Int × (List (Int × Int × Int × Int × Int)) × Int) (a1 : Int × Int × Int) (a2 : Int × Int × Int) (a3 : Int) (a4 : Int) : Option ((List (Int × (Int × Int × Int) × (Int × Int) × Int)) × Int) :=
  (F23 a0).bind fun y1 =>
  (bif (y1 != (0 : Int)) then
    some (([] : List (Int × (Int × Int × Int) × (Int × Int) × Int)), y1)
  else
    (bif (decide (a3 < (0 : Int))) then
      some (([] : List (Int × (Int × Int × Int) × (Int × Int) × Int)), (1 : Int))
    else
      (bif (decide (a4 ≤ (0 : Int))) then
        some (([] : List (Int × (Int × Int × Int) × (Int × Int) × Int)), (1 : Int))
      else
        (F24 ([a1.1, a1.2.1, a1.2.2, a2.1, a2.2.1, a2.2.2, a3] : List Int)).bind fun y2 =>
        (bif y2 then
          some (([] : List (Int × (Int × Int × Int) × (Int × Int) × Int)), (11 : Int))
        else
          (F25 a1).bind fun y3 =>
          (F25 a2).bind fun y4 =>
          ((f7_c0 a3 a4 (!(eqD t28 y3 y4)) a0 a1 a2).bind fun o43 =>
            some (o43.2, (0 : Int)))))))

theorem c7 {a0 : Int × Int × Int × Int × Int × Int × (List (Int × Int × Int × Int × Int)) × Int} {a1 : Int × Int × Int} {a2 : Int × Int × Int} {a3 : Int} {a4 : Int} {r : (List (Int × (Int × Int × Int) × (Int × Int) × Int)) × Int} (h : F7 a0 a1 a2 a3 a4 = some r) : CallPure Pg 7 [(.d t23 a0), (.d t25 a1), (.d t25 a2), (.d t2 a3), (.d t2 a4)] (.tup (.vcons (.d t31 r.1) (.vcons (.d t2 r.2) .vnil))) := by
  refine callPureN hX c_7 83 [.tmp 10, .tmp 11] [31, 32] Go.Proofs.Try.func7 (by kernel_rfl) (by kernel_rfl) (by kernel_rfl) (Nat.le_of_ble_eq_true rfl) rfl rfl ?_
  show Run Pg 83 c_7 ⟨[(0, (.d t23 a0)), (1, (.d t25 a1)), (2, (.d t25 a2)), (3, (.d t2 a3)), (4, (.d t2 a4))], []⟩ (fin7 r)
  unfold F7 at h
  refine Run.regN hX [] 100 [3, 4, 5, 6, 7] [100, 101, 102] ⟨[(3, (.d t2 a3)), (4, (.d t2 a4)), (5, (.ptr 100 0)), (6, (.ptr 101 0)), (7, (.ptr 102 0))], [(100, (.box (.vcons (.d t23 a0) .vnil))), (101, (.box (.vcons (.d t25 a1) .vnil))), (102, (.box (.vcons (.d t25 a2) .vnil)))]⟩ [] (by kernel_rfl) (by kernel_rfl) trivial ?_
  refine Run.seqN (by kernel_rfl) ?_
  obtain ⟨y1, h_y1, h⟩ := bnd_elim h
  refine Run.regN hX [(1, .call (.d t2 y1))] 200 [3, 4, 5, 6, 7, 12] [100, 101, 102] ⟨[(3, (.d t2 a3)), (4, (.d t2 a4)), (5, (.ptr 100 0)), (6, (.ptr 101 0)), (7, (.ptr 102 0)), (12, (.d t2 y1))], [(100, (.box (.vcons (.d t23 a0) .vnil))), (101, (.box (.vcons (.d t25 a1) .vnil))), (102, (.box (.vcons (.d t25 a2) .vnil)))]⟩ [CallPure Pg 23 [(.d t23 a0)] (.d t2 y1)] (by kernel_rfl) (by kernel_rfl) ⟨(c23 h_y1), trivial⟩ ?_
  refine Run.regN hX [] 300 [3, 4, 5, 6, 7, 12, 17] [100, 101, 102] ⟨[(3, (.d t2 a3)), (4, (.d t2 a4)), (5, (.ptr 100 0)), (6, (.ptr 101 0)), (7, (.ptr 102 0)), (12, (.d t2 y1)), (17, (.d t4 (y1 != (0 : Int))))], [(100, (.box (.vcons (.d t23 a0) .vnil))), (101, (.box (.vcons (.d t25 a1) .vnil))), (102, (.box (.vcons (.d t25 a2) .vnil)))]⟩ [] (by kernel_rfl) (by kernel_rfl) trivial ?_
  refine Run.condN (y1 != (0 : Int)) (by kernel_rfl) (fun hb => ?_) (fun hb => ?_)
  · replace h := bif_t h hb
    refine Run.regN hX [] 400 [10, 11] [] ⟨[(10, .nil), (11, (.d t2 y1))], []⟩ [] (by kernel_rfl) (by kernel_rfl) trivial ?_
    refine Run.retN (by kernel_rfl) ?_
    replace h := Option.some.inj h
    subst h
    exact ⟨[(.d t31 ([] : List (Int × (Int × Int × Int) × (Int × Int) × Int))), (.d t2 y1)], by kernel_rfl, by kernel_rfl⟩
  · replace h := bif_f h hb
    refine Run.skipN (by kernel_rfl) ?_
    show Run Pg 83 _ _ _
    refine Run.seqN (by kernel_rfl) ?_
    rcases bif_elim h with ⟨hb0, h⟩ | ⟨hb0, h⟩
    · refine Run.regN hX [(2, .b true)] 500 [3, 4, 5, 6, 7, 24] [100, 101, 102] ⟨[(3, (.d t2 a3)), (4, (.d t2 a4)), (5, (.ptr 100 0)), (6, (.ptr 101 0)), (7, (.ptr 102 0)), (24, (.d t4 true))], [(100, (.box (.vcons (.d t23 a0) .vnil))), (101, (.box (.vcons (.d t25 a1) .vnil))), (102, (.box (.vcons (.d t25 a2) .vnil)))]⟩ [(decide (a3 < (0 : Int))) = true] (by kernel_rfl) (by kernel_rfl) ⟨hb0, trivial⟩ ?_
      refine Run.condN true (by kernel_rfl) (fun hb => ?_) (fun hb => (by cases hb))
      refine Run.regN hX [] 600 [10, 11] [] ⟨[(10, .nil), (11, (.d t2 (1 : Int)))], []⟩ [] (by kernel_rfl) (by kernel_rfl) trivial ?_
      refine Run.retN (by kernel_rfl) ?_
      replace h := Option.some.inj h
      subst h
      exact ⟨[(.d t31 ([] : List (Int × (Int × Int × Int) × (Int × Int) × Int))), (.d t2 (1 : Int))], by kernel_rfl, by kernel_rfl⟩
    · refine Run.regN hX [(2, .b false)] 500 [3, 4, 5, 6, 7, 24] [100, 101, 102] ⟨[(3, (.d t2 a3)), (4, (.d t2 a4)), (5, (.ptr 100 0)), (6, (.ptr 101 0)), (7, (.ptr 102 0)), (24, (.d t4 (decide (a4 ≤ (0 : Int)))))], [(100, (.box (.vcons (.d t23 a0) .vnil))), (101, (.box (.vcons (.d t25 a1) .vnil))), (102, (.box (.vcons (.d t25 a2) .vnil)))]⟩ [(decide (a3 < (0 : Int))) = false] (by kernel_rfl) (by kernel_rfl) ⟨hb0, trivial⟩ ?_
      refine Run.condN (decide (a4 ≤ (0 : Int))) (by kernel_rfl) (fun hb => ?_) (fun hb => ?_)
      · replace h := bif_t h hb
        refine Run.regN hX [] 600 [10, 11] [] ⟨[(10, .nil), (11, (.d t2 (1 : Int)))], []⟩ [] (by kernel_rfl) (by kernel_rfl) trivial ?_
        refine Run.retN (by kernel_rfl) ?_
        replace h := Option.some.inj h
        subst h
        exact ⟨[(.d t31 ([] : List (Int × (Int × Int × Int) × (Int × Int) × Int))), (.d t2 (1 : Int))], by kernel_rfl, by kernel_rfl⟩
      · replace h := bif_f h hb
        refine Run.skipN (by kernel_rfl) ?_
        show Run Pg 83 _ _ _
        refine Run.seqN (by kernel_rfl) ?_
        obtain ⟨y2, h_y2, h⟩ := bnd_elim h
        refine Run.regN hX [(14, .call (.d t4 y2))] 700 [3, 4, 5, 6, 7, 39] [100, 101, 102] ⟨[(3, (.d t2 a3)), (4, (.d t2 a4)), (5, (.ptr 100 0)), (6, (.ptr 101 0)), (7, (.ptr 102 0)), (39, (.d t4 y2))], [(100, (.box (.vcons (.d t23 a0) .vnil))), (101, (.box (.vcons (.d t25 a1) .vnil))), (102, (.box (.vcons (.d t25 a2) .vnil)))]⟩ [CallPure Pg 24 [(.d t57 ([a1.1, a1.2.1, a1.2.2, a2.1, a2.2.1, a2.2.2, a3] : List Int))] (.d t4 y2)] (by kernel_rfl) (by kernel_rfl) ⟨(c24 h_y2), trivial⟩ ?_
        refine Run.condN y2 (by kernel_rfl) (fun hb => ?_) (fun hb => ?_)
        · replace h := bif_t h hb
          refine Run.regN hX [] 800 [10, 11] [] ⟨[(10, .nil), (11, (.d t2 (11 : Int)))], []⟩ [] (by kernel_rfl) (by kernel_rfl) trivial ?_
          refine Run.retN (by kernel_rfl) ?_
          replace h := Option.some.inj h
          subst h
          exact ⟨[(.d t31 ([] : List (Int × (Int × Int × Int) × (Int × Int) × Int))), (.d t2 (11 : Int))], by kernel_rfl, by kernel_rfl⟩
        · replace h := bif_f h hb
          refine Run.skipN (by kernel_rfl) ?_
          show Run Pg 83 _ _ _
          refine Run.regN hX [(1, .part)] 900 [3, 4, 5, 6, 7, 13] [100, 101, 102, 902] ⟨[(3, (.d t2 a3)), (4, (.d t2 a4)), (5, (.ptr 100 0)), (6, (.ptr 101 0)), (7, (.ptr 102 0)), (13, (.ptr 902 0))], [(100, (.box (.vcons (.d t23 a0) .vnil))), (101, (.box (.vcons (.d t25 a1) .vnil))), (102, (.box (.vcons (.d t25 a2) .vnil))), (902, (.box (.vcons (.d t25 a1) (.vcons .nil .vnil))))]⟩ [] (by kernel_rfl) (by kernel_rfl) trivial ?_
          refine Run.seqN (by kernel_rfl) ?_
          refine Run.blockN 0 (by kernel_rfl) ?_
          obtain ⟨y3, h_y3, h⟩ := bnd_elim h
          obtain ⟨y4, h_y4, h⟩ := bnd_elim h
          refine Run.regN hX [(1, .call (.d t28 y3)), (3, .call (.d t28 y4))] 1100 [3, 4, 5, 6, 7, 13, 46] [100, 101, 102, 902] ⟨[(3, (.d t2 a3)), (4, (.d t2 a4)), (5, (.ptr 100 0)), (6, (.ptr 101 0)), (7, (.ptr 102 0)), (13, (.ptr 902 0)), (46, (.d t4 (!(eqD t28 y3 y4))))], [(100, (.box (.vcons (.d t23 a0) .vnil))), (101, (.box (.vcons (.d t25 a1) .vnil))), (102, (.box (.vcons (.d t25 a2) .vnil))), (902, (.box (.vcons (.d t25 a1) (.vcons .nil .vnil))))]⟩ [CallPure Pg 25 [(.d t25 a1)] (.d t28 y3), CallPure Pg 25 [(.d t25 a2)] (.d t28 y4)] (by kernel_rfl) (by kernel_rfl) ⟨(c25 h_y3), (c25 h_y4), trivial⟩ ?_
          obtain ⟨o43, h_o43, h⟩ := bnd_elim h
          refine Run.mono (f7_c0_ok a3 a4 (!(eqD t28 y3 y4)) a0 a1 a2 h_o43) ?_
          rintro x s ⟨hx, hs⟩
          subst hx
          subst hs
          show Run Pg 83 _ _ _
          refine Run.regN hX [] 1700 [10, 11] [91403] ⟨[(10, (.vec 91403 t66)), (11, (.d t2 (0 : Int)))], [(91403, (.vec 67 t66 o43.2))]⟩ [] (by kernel_rfl) (by kernel_rfl) trivial ?_
          refine Run.freeze (s' := ⟨[(10, (.d t31 o43.2)), (11, (.d t2 (0 : Int)))], []⟩) 91403 (by kernel_rfl) ?_
          refine Run.retN (by kernel_rfl) ?_
          replace h := Option.some.inj h
          subst h
          exact ⟨[(.d t31 o43.2), (.d t2 (0 : Int))], by kernel_rfl, by kernel_rfl⟩

/-! ## f8 -/

noncomputable def c_8 : Code := body0 Go.Proofs.Try.f8

def fin8 (r : Bool) : Ex → St → Prop := endK X0 [.tmp 8] [4] (.d t4 r)

def f8_c1_post (x33 : Int) (x34 : Bool) (x35 : List (Int × (Int × Int × Int) × (Int × Int) × Int)) (x36 : Int) (x37 : Int) (x38 : Int) (x39 : Bool) (x40 : Int × Int × Int) (x41 : Int × Int × Int) (x42 : Int × (Int × Int × Int) × (Int × Int) × Int) : ((Unit) ⊕ (Bool)) → Ex → St → Prop
  | .inl o, x, s => x = .nrm ∧ s = ⟨[(3, (.d t2 x33)), (5, (.ptr 101 0)), (9, (.ptr 201 0)), (11, (.ptr 502 0)), (14, (.d t31 x35)), (15, (.d t2 x36)), (16, (.d t2 x37))], [(101, (.box (.vcons (.d t25 x40) .vnil))), (201, (.box (.vcons (.d t25 x41) .vnil))), (502, (.box (.vcons (.d t66 x42) .vnil)))]⟩
  | .inr o, x, s => x = .ret ∧ fin8  o x s

def f8_c1 (x33 : Int) (x34 : Bool) (x38 : Int) (x39 : Bool) (x41 : Int × Int × Int) (x42 : Int × (Int × Int × Int) × (Int × Int) × Int) : Option ((Unit) ⊕ (Bool)) :=
  (bif x39 then
    (bif (!x34) then
      (bif (x42.2.1.2.2 != x41.2.2) then
        some (.inr false)
      else
        (bif (decide (x41.2.2 < x33)) then
          some (.inr false)
        else
          (bif (decide (x42.2.1.2.2 < (1000 : Int))) then
            (bif (decide (x42.2.1.2.2 ≤ x41.2.2)) then
              some (.inr false)
            else
              some (.inl ()))
          else
            some (.inl ()))))
    else
      (bif (decide (x42.2.1.2.2 < (1000 : Int))) then
        (bif (decide (x42.2.1.2.2 ≤ x41.2.2)) then
          some (.inr false)
        else
          some (.inl ()))
      else
        some (.inl ())))
  else
    (bif (x38 == (2 : Int)) then
      (bif (!x34) then
        some (.inr false)
      else
        (bif (decide (x41.2.2 ≤ x42.2.1.2.2)) then
          some (.inr false)
        else
          some (.inl ())))
    else
      some (.inr false)))

theorem f8_c1_ok (x33 : Int) (x34 : Bool) (x35 : List (Int × (Int × Int × Int) × (Int × Int) × Int)) (x36 : Int) (x37 : Int) (x38 : Int) (x39 : Bool) (x40 : Int × Int × Int) (x41 : Int × Int × Int) (x42 : Int × (Int × Int × Int) × (Int × Int) × Int) {out : ((Unit) ⊕ (Bool))} (h : f8_c1 x33 x34 x38 x39 x41 x42 = some out) : Run Pg 86 (sq2 (bk1 (sq2 (sq1 (sq2 (sq2 (bk1 (sq1 (sq2 (sq2 (lp1 (bk1 (sq2 (sq1 (sq2 (sq2 c_8)))))))))))))))) ⟨[(3, (.d t2 x33)), (5, (.ptr 101 0)), (9, (.ptr 201 0)), (11, (.ptr 502 0)), (12, (.d t4 x34)), (14, (.d t31 x35)), (15, (.d t2 x36)), (16, (.d t2 x37)), (35, (.d t2 x38)), (36, (.d t4 x39))], [(101, (.box (.vcons (.d t25 x40) .vnil))), (201, (.box (.vcons (.d t25 x41) .vnil))), (502, (.box (.vcons (.d t66 x42) .vnil)))]⟩ (f8_c1_post x33 x34 x35 x36 x37 x38 x39 x40 x41 x42 out) := by
  unfold f8_c1 at h
  refine Run.condN x39 (by kernel_rfl) (fun hb => ?_) (fun hb => ?_)
  · replace h := bif_t h hb
    rcases bif_elim h with ⟨hb0, h⟩ | ⟨hb0, h⟩
    · rcases bif_elim h with ⟨hb1, h⟩ | ⟨hb1, h⟩
      · refine Run.regN hX [(2, .b true), (9, .b true)] 1000 [3, 5, 9, 11, 14, 15, 16, 67] [101, 201, 502] ⟨[(3, (.d t2 x33)), (5, (.ptr 101 0)), (9, (.ptr 201 0)), (11, (.ptr 502 0)), (14, (.d t31 x35)), (15, (.d t2 x36)), (16, (.d t2 x37)), (67, (.d t4 true))], [(101, (.box (.vcons (.d t25 x40) .vnil))), (201, (.box (.vcons (.d t25 x41) .vnil))), (502, (.box (.vcons (.d t66 x42) .vnil)))]⟩ [(!x34) = true, (x42.2.1.2.2 != x41.2.2) = true] (by kernel_rfl) (by kernel_rfl) ⟨hb0, hb1, trivial⟩ ?_
        refine Run.condN true (by kernel_rfl) (fun hb => ?_) (fun hb => (by cases hb))
        refine Run.regN hX [] 1100 [8] [] ⟨[(8, (.d t4 false))], []⟩ [] (by kernel_rfl) (by kernel_rfl) trivial ?_
        refine Run.retN (by kernel_rfl) ?_
        replace h := Option.some.inj h
        subst h
        exact ⟨rfl, [(.d t4 false)], by kernel_rfl, by kernel_rfl⟩
      · rcases bif_elim h with ⟨hb2, h⟩ | ⟨hb2, h⟩
        · refine Run.regN hX [(2, .b true), (9, .b false), (16, .b true)] 1000 [3, 5, 9, 11, 14, 15, 16, 67] [101, 201, 502] ⟨[(3, (.d t2 x33)), (5, (.ptr 101 0)), (9, (.ptr 201 0)), (11, (.ptr 502 0)), (14, (.d t31 x35)), (15, (.d t2 x36)), (16, (.d t2 x37)), (67, (.d t4 true))], [(101, (.box (.vcons (.d t25 x40) .vnil))), (201, (.box (.vcons (.d t25 x41) .vnil))), (502, (.box (.vcons (.d t66 x42) .vnil)))]⟩ [(!x34) = true, (x42.2.1.2.2 != x41.2.2) = false, (decide (x41.2.2 < x33)) = true] (by kernel_rfl) (by kernel_rfl) ⟨hb0, hb1, hb2, trivial⟩ ?_
          refine Run.condN true (by kernel_rfl) (fun hb => ?_) (fun hb => (by cases hb))
          refine Run.regN hX [] 1100 [8] [] ⟨[(8, (.d t4 false))], []⟩ [] (by kernel_rfl) (by kernel_rfl) trivial ?_
          refine Run.retN (by kernel_rfl) ?_
          replace h := Option.some.inj h
          subst h
          exact ⟨rfl, [(.d t4 false)], by kernel_rfl, by kernel_rfl⟩
        · rcases bif_elim h with ⟨hb3, h⟩ | ⟨hb3, h⟩
          · refine Run.regN hX [(2, .b true), (9, .b false), (16, .b false), (21, .b true)] 1000 [3, 5, 9, 11, 14, 15, 16, 67] [101, 201, 502] ⟨[(3, (.d t2 x33)), (5, (.ptr 101 0)), (9, (.ptr 201 0)), (11, (.ptr 502 0)), (14, (.d t31 x35)), (15, (.d t2 x36)), (16, (.d t2 x37)), (67, (.d t4 (decide (x42.2.1.2.2 ≤ x41.2.2))))], [(101, (.box (.vcons (.d t25 x40) .vnil))), (201, (.box (.vcons (.d t25 x41) .vnil))), (502, (.box (.vcons (.d t66 x42) .vnil)))]⟩ [(!x34) = true, (x42.2.1.2.2 != x41.2.2) = false, (decide (x41.2.2 < x33)) = false, (decide (x42.2.1.2.2 < (1000 : Int))) = true] (by kernel_rfl) (by kernel_rfl) ⟨hb0, hb1, hb2, hb3, trivial⟩ ?_
            refine Run.condN (decide (x42.2.1.2.2 ≤ x41.2.2)) (by kernel_rfl) (fun hb => ?_) (fun hb => ?_)
            · replace h := bif_t h hb
              refine Run.regN hX [] 1100 [8] [] ⟨[(8, (.d t4 false))], []⟩ [] (by kernel_rfl) (by kernel_rfl) trivial ?_
              refine Run.retN (by kernel_rfl) ?_
              replace h := Option.some.inj h
              subst h
              exact ⟨rfl, [(.d t4 false)], by kernel_rfl, by kernel_rfl⟩
            · replace h := bif_f h hb
              refine Run.keep (s' := ⟨[(3, (.d t2 x33)), (5, (.ptr 101 0)), (9, (.ptr 201 0)), (11, (.ptr 502 0)), (14, (.d t31 x35)), (15, (.d t2 x36)), (16, (.d t2 x37))], [(101, (.box (.vcons (.d t25 x40) .vnil))), (201, (.box (.vcons (.d t25 x41) .vnil))), (502, (.box (.vcons (.d t66 x42) .vnil)))]⟩) [3, 5, 9, 11, 14, 15, 16] [101, 201, 502] (by kernel_rfl) ?_
              refine Run.skipN (by kernel_rfl) ?_
              replace h := Option.some.inj h
              subst h
              exact ⟨rfl, by kernel_rfl⟩
          · refine Run.regN hX [(2, .b true), (9, .b false), (16, .b false), (21, .b false)] 1000 [3, 5, 9, 11, 14, 15, 16, 67] [101, 201, 502] ⟨[(3, (.d t2 x33)), (5, (.ptr 101 0)), (9, (.ptr 201 0)), (11, (.ptr 502 0)), (14, (.d t31 x35)), (15, (.d t2 x36)), (16, (.d t2 x37)), (67, (.d t4 false))], [(101, (.box (.vcons (.d t25 x40) .vnil))), (201, (.box (.vcons (.d t25 x41) .vnil))), (502, (.box (.vcons (.d t66 x42) .vnil)))]⟩ [(!x34) = true, (x42.2.1.2.2 != x41.2.2) = false, (decide (x41.2.2 < x33)) = false, (decide (x42.2.1.2.2 < (1000 : Int))) = false] (by kernel_rfl) (by kernel_rfl) ⟨hb0, hb1, hb2, hb3, trivial⟩ ?_
            refine Run.condN false (by kernel_rfl) (fun hb => (by cases hb)) (fun hb => ?_)
            refine Run.keep (s' := ⟨[(3, (.d t2 x33)), (5, (.ptr 101 0)), (9, (.ptr 201 0)), (11, (.ptr 502 0)), (14, (.d t31 x35)), (15, (.d t2 x36)), (16, (.d t2 x37))], [(101, (.box (.vcons (.d t25 x40) .vnil))), (201, (.box (.vcons (.d t25 x41) .vnil))), (502, (.box (.vcons (.d t66 x42) .vnil)))]⟩) [3, 5, 9, 11, 14, 15, 16] [101, 201, 502] (by kernel_rfl) ?_
            refine Run.skipN (by kernel_rfl) ?_
            replace h := Option.some.inj h
            subst h
            exact ⟨rfl, by kernel_rfl⟩
    · rcases bif_elim h with ⟨hb1, h⟩ | ⟨hb1, h⟩
      · refine Run.regN hX [(2, .b false), (21, .b true)] 1000 [3, 5, 9, 11, 14, 15, 16, 67] [101, 201, 502] ⟨[(3, (.d t2 x33)), (5, (.ptr 101 0)), (9, (.ptr 201 0)), (11, (.ptr 502 0)), (14, (.d t31 x35)), (15, (.d t2 x36)), (16, (.d t2 x37)), (67, (.d t4 (decide (x42.2.1.2.2 ≤ x41.2.2))))], [(101, (.box (.vcons (.d t25 x40) .vnil))), (201, (.box (.vcons (.d t25 x41) .vnil))), (502, (.box (.vcons (.d t66 x42) .vnil)))]⟩ [(!x34) = false, (decide (x42.2.1.2.2 < (1000 : Int))) = true] (by kernel_rfl) (by kernel_rfl) ⟨hb0, hb1, trivial⟩ ?_
        refine Run.condN (decide (x42.2.1.2.2 ≤ x41.2.2)) (by kernel_rfl) (fun hb => ?_) (fun hb => ?_)
        · replace h := bif_t h hb
          refine Run.regN hX [] 1100 [8] [] ⟨[(8, (.d t4 false))], []⟩ [] (by kernel_rfl) (by kernel_rfl) trivial ?_
          refine Run.retN (by kernel_rfl) ?_
          replace h := Option.some.inj h
          subst h
          exact ⟨rfl, [(.d t4 false)], by kernel_rfl, by kernel_rfl⟩
        · replace h := bif_f h hb
          refine Run.keep (s' := ⟨[(3, (.d t2 x33)), (5, (.ptr 101 0)), (9, (.ptr 201 0)), (11, (.ptr 502 0)), (14, (.d t31 x35)), (15, (.d t2 x36)), (16, (.d t2 x37))], [(101, (.box (.vcons (.d t25 x40) .vnil))), (201, (.box (.vcons (.d t25 x41) .vnil))), (502, (.box (.vcons (.d t66 x42) .vnil)))]⟩) [3, 5, 9, 11, 14, 15, 16] [101, 201, 502] (by kernel_rfl) ?_
          refine Run.skipN (by kernel_rfl) ?_
          replace h := Option.some.inj h
          subst h
          exact ⟨rfl, by kernel_rfl⟩
      · refine Run.regN hX [(2, .b false), (21, .b false)] 1000 [3, 5, 9, 11, 14, 15, 16, 67] [101, 201, 502] ⟨[(3, (.d t2 x33)), (5, (.ptr 101 0)), (9, (.ptr 201 0)), (11, (.ptr 502 0)), (14, (.d t31 x35)), (15, (.d t2 x36)), (16, (.d t2 x37)), (67, (.d t4 false))], [(101, (.box (.vcons (.d t25 x40) .vnil))), (201, (.box (.vcons (.d t25 x41) .vnil))), (502, (.box (.vcons (.d t66 x42) .vnil)))]⟩ [(!x34) = false, (decide (x42.2.1.2.2 < (1000 : Int))) = false] (by kernel_rfl) (by kernel_rfl) ⟨hb0, hb1, trivial⟩ ?_
        refine Run.condN false (by kernel_rfl) (fun hb => (by cases hb)) (fun hb => ?_)
        refine Run.keep (s' := ⟨[(3, (.d t2 x33)), (5, (.ptr 101 0)), (9, (.ptr 201 0)), (11, (.ptr 502 0)), (14, (.d t31 x35)), (15, (.d t2 x36)), (16, (.d t2 x37))], [(101, (.box (.vcons (.d t25 x40) .vnil))), (201, (.box (.vcons (.d t25 x41) .vnil))), (502, (.box (.vcons (.d t66 x42) .vnil)))]⟩) [3, 5, 9, 11, 14, 15, 16] [101, 201, 502] (by kernel_rfl) ?_
        refine Run.skipN (by kernel_rfl) ?_
        replace h := Option.some.inj h
        subst h
        exact ⟨rfl, by kernel_rfl⟩
  · replace h := bif_f h hb
    refine Run.regN hX [] 1200 [3, 5, 9, 11, 12, 14, 15, 16, 68] [101, 201, 502] ⟨[(3, (.d t2 x33)), (5, (.ptr 101 0)), (9, (.ptr 201 0)), (11, (.ptr 502 0)), (12, (.d t4 x34)), (14, (.d t31 x35)), (15, (.d t2 x36)), (16, (.d t2 x37)), (68, (.d t4 (x38 == (2 : Int))))], [(101, (.box (.vcons (.d t25 x40) .vnil))), (201, (.box (.vcons (.d t25 x41) .vnil))), (502, (.box (.vcons (.d t66 x42) .vnil)))]⟩ [] (by kernel_rfl) (by kernel_rfl) trivial ?_
    refine Run.condN (x38 == (2 : Int)) (by kernel_rfl) (fun hb => ?_) (fun hb => ?_)
    · replace h := bif_t h hb
      rcases bif_elim h with ⟨hb0, h⟩ | ⟨hb0, h⟩
      · refine Run.regN hX [(2, .b true)] 1300 [3, 5, 9, 11, 14, 15, 16, 79] [101, 201, 502] ⟨[(3, (.d t2 x33)), (5, (.ptr 101 0)), (9, (.ptr 201 0)), (11, (.ptr 502 0)), (14, (.d t31 x35)), (15, (.d t2 x36)), (16, (.d t2 x37)), (79, (.d t4 true))], [(101, (.box (.vcons (.d t25 x40) .vnil))), (201, (.box (.vcons (.d t25 x41) .vnil))), (502, (.box (.vcons (.d t66 x42) .vnil)))]⟩ [(!x34) = true] (by kernel_rfl) (by kernel_rfl) ⟨hb0, trivial⟩ ?_
        refine Run.condN true (by kernel_rfl) (fun hb => ?_) (fun hb => (by cases hb))
        refine Run.regN hX [] 1400 [8] [] ⟨[(8, (.d t4 false))], []⟩ [] (by kernel_rfl) (by kernel_rfl) trivial ?_
        refine Run.retN (by kernel_rfl) ?_
        replace h := Option.some.inj h
        subst h
        exact ⟨rfl, [(.d t4 false)], by kernel_rfl, by kernel_rfl⟩
      · refine Run.regN hX [(2, .b false)] 1300 [3, 5, 9, 11, 14, 15, 16, 79] [101, 201, 502] ⟨[(3, (.d t2 x33)), (5, (.ptr 101 0)), (9, (.ptr 201 0)), (11, (.ptr 502 0)), (14, (.d t31 x35)), (15, (.d t2 x36)), (16, (.d t2 x37)), (79, (.d t4 (decide (x41.2.2 ≤ x42.2.1.2.2))))], [(101, (.box (.vcons (.d t25 x40) .vnil))), (201, (.box (.vcons (.d t25 x41) .vnil))), (502, (.box (.vcons (.d t66 x42) .vnil)))]⟩ [(!x34) = false] (by kernel_rfl) (by kernel_rfl) ⟨hb0, trivial⟩ ?_
        refine Run.condN (decide (x41.2.2 ≤ x42.2.1.2.2)) (by kernel_rfl) (fun hb => ?_) (fun hb => ?_)
        · replace h := bif_t h hb
          refine Run.regN hX [] 1400 [8] [] ⟨[(8, (.d t4 false))], []⟩ [] (by kernel_rfl) (by kernel_rfl) trivial ?_
          refine Run.retN (by kernel_rfl) ?_
          replace h := Option.some.inj h
          subst h
          exact ⟨rfl, [(.d t4 false)], by kernel_rfl, by kernel_rfl⟩
        · replace h := bif_f h hb
          refine Run.keep (s' := ⟨[(3, (.d t2 x33)), (5, (.ptr 101 0)), (9, (.ptr 201 0)), (11, (.ptr 502 0)), (14, (.d t31 x35)), (15, (.d t2 x36)), (16, (.d t2 x37))], [(101, (.box (.vcons (.d t25 x40) .vnil))), (201, (.box (.vcons (.d t25 x41) .vnil))), (502, (.box (.vcons (.d t66 x42) .vnil)))]⟩) [3, 5, 9, 11, 14, 15, 16] [101, 201, 502] (by kernel_rfl) ?_
          refine Run.skipN (by kernel_rfl) ?_
          replace h := Option.some.inj h
          subst h
          exact ⟨rfl, by kernel_rfl⟩
    · replace h := bif_f h hb
      refine Run.regN hX [] 800 [8] [] ⟨[(8, (.d t4 false))], []⟩ [] (by kernel_rfl) (by kernel_rfl) trivial ?_
      refine Run.retN (by kernel_rfl) ?_
      replace h := Option.some.inj h
      subst h
      exact ⟨rfl, [(.d t4 false)], by kernel_rfl, by kernel_rfl⟩

def f8_c2_post (x46 : Int) (x47 : Bool) (x48 : List (Int × (Int × Int × Int) × (Int × Int) × Int)) (x49 : Int) (x50 : Int) (x51 : Int) (x52 : Bool) (x53 : Int × Int × Int) (x54 : Int × Int × Int) (x55 : Int × (Int × Int × Int) × (Int × Int) × Int) : ((Unit) ⊕ (Bool)) → Ex → St → Prop
  | .inl o, x, s => x = .nrm ∧ s = ⟨[(3, (.d t2 x46)), (5, (.ptr 101 0)), (9, (.ptr 201 0)), (11, (.ptr 502 0)), (14, (.d t31 x48)), (15, (.d t2 x49)), (16, (.d t2 x50))], [(101, (.box (.vcons (.d t25 x53) .vnil))), (201, (.box (.vcons (.d t25 x54) .vnil))), (502, (.box (.vcons (.d t66 x55) .vnil)))]⟩
  | .inr o, x, s => x = .ret ∧ fin8  o x s

def f8_c2 (x46 : Int) (x47 : Bool) (x51 : Int) (x52 : Bool) (x54 : Int × Int × Int) (x55 : Int × (Int × Int × Int) × (Int × Int) × Int) : Option ((Unit) ⊕ (Bool)) :=
  (bif x52 then
    (bif (!x47) then
      (bif (x55.2.1.2.2 != x54.2.2) then
        some (.inr false)
      else
        (bif (decide (x54.2.2 < x46)) then
          some (.inr false)
        else
          (bif (decide (x55.2.1.2.2 < (1000 : Int))) then
            (bif (decide (x55.2.1.2.2 ≤ x54.2.2)) then
              some (.inr false)
            else
              some (.inl ()))
          else
            some (.inl ()))))
    else
      (bif (decide (x55.2.1.2.2 < (1000 : Int))) then
        (bif (decide (x55.2.1.2.2 ≤ x54.2.2)) then
          some (.inr false)
        else
          some (.inl ()))
      else
        some (.inl ())))
  else
    (bif (x51 == (2 : Int)) then
      (bif (!x47) then
        some (.inr false)
      else
        (bif (decide (x54.2.2 ≤ x55.2.1.2.2)) then
          some (.inr false)
        else
          some (.inl ())))
    else
      some (.inr false)))

theorem f8_c2_ok (x46 : Int) (x47 : Bool) (x48 : List (Int × (Int × Int × Int) × (Int × Int) × Int)) (x49 : Int) (x50 : Int) (x51 : Int) (x52 : Bool) (x53 : Int × Int × Int) (x54 : Int × Int × Int) (x55 : Int × (Int × Int × Int) × (Int × Int) × Int) {out : ((Unit) ⊕ (Bool))} (h : f8_c2 x46 x47 x51 x52 x54 x55 = some out) : Run Pg 86 (sq2 (bk1 (sq2 (sq1 (sq2 (sq2 (bk1 (sq1 (sq2 (sq2 (lp1 (bk1 (sq2 (sq1 (sq2 (sq2 c_8)))))))))))))))) ⟨[(3, (.d t2 x46)), (5, (.ptr 101 0)), (9, (.ptr 201 0)), (11, (.ptr 502 0)), (12, (.d t4 x47)), (14, (.d t31 x48)), (15, (.d t2 x49)), (16, (.d t2 x50)), (35, (.d t2 x51)), (36, (.d t4 x52))], [(101, (.box (.vcons (.d t25 x53) .vnil))), (201, (.box (.vcons (.d t25 x54) .vnil))), (502, (.box (.vcons (.d t66 x55) .vnil)))]⟩ (f8_c2_post x46 x47 x48 x49 x50 x51 x52 x53 x54 x55 out) := by
  unfold f8_c2 at h
  refine Run.condN x52 (by kernel_rfl) (fun hb => ?_) (fun hb => ?_)
  · replace h := bif_t h hb
    rcases bif_elim h with ⟨hb0, h⟩ | ⟨hb0, h⟩
    · rcases bif_elim h with ⟨hb1, h⟩ | ⟨hb1, h⟩
      · refine Run.regN hX [(2, .b true), (9, .b true)] 1000 [3, 5, 9, 11, 14, 15, 16, 67] [101, 201, 502] ⟨[(3, (.d t2 x46)), (5, (.ptr 101 0)), (9, (.ptr 201 0)), (11, (.ptr 502 0)), (14, (.d t31 x48)), (15, (.d t2 x49)), (16, (.d t2 x50)), (67, (.d t4 true))], [(101, (.box (.vcons (.d t25 x53) .vnil))), (201, (.box (.vcons (.d t25 x54) .vnil))), (502, (.box (.vcons (.d t66 x55) .vnil)))]⟩ [(!x47) = true, (x55.2.1.2.2 != x54.2.2) = true] (by kernel_rfl) (by kernel_rfl) ⟨hb0, hb1, trivial⟩ ?_
        refine Run.condN true (by kernel_rfl) (fun hb => ?_) (fun hb => (by cases hb))
        refine Run.regN hX [] 1100 [8] [] ⟨[(8, (.d t4 false))], []⟩ [] (by kernel_rfl) (by kernel_rfl) trivial ?_
        refine Run.retN (by kernel_rfl) ?_
        replace h := Option.some.inj h
        subst h
        exact ⟨rfl, [(.d t4 false)], by kernel_rfl, by kernel_rfl⟩
      · rcases bif_elim h with ⟨hb2, h⟩ | ⟨hb2, h⟩
        · refine Run.regN hX [(2, .b true), (9, .b false), (16, .b true)] 1000 [3, 5, 9, 11, 14, 15, 16, 67] [101, 201, 502] ⟨[(3, (.d t2 x46)), (5, (.ptr 101 0)), (9, (.ptr 201 0)), (11, (.ptr 502 0)), (14, (.d t31 x48)), (15, (.d t2 x49)), (16, (.d t2 x50)), (67, (.d t4 true))], [(101, (.box (.vcons (.d t25 x53) .vnil))), (201, (.box (.vcons (.d t25 x54) .vnil))), (502, (.box (.vcons (.d t66 x55) .vnil)))]⟩ [(!x47) = true, (x55.2.1.2.2 != x54.2.2) = false, (decide (x54.2.2 < x46)) = true] (by kernel_rfl) (by kernel_rfl) ⟨hb0, hb1, hb2, trivial⟩ ?_
          refine Run.condN true (by kernel_rfl) (fun hb => ?_) (fun hb => (by cases hb))
          refine Run.regN hX [] 1100 [8] [] ⟨[(8, (.d t4 false))], []⟩ [] (by kernel_rfl) (by kernel_rfl) trivial ?_
          refine Run.retN (by kernel_rfl) ?_
          replace h := Option.some.inj h
          subst h
          exact ⟨rfl, [(.d t4 false)], by kernel_rfl, by kernel_rfl⟩
        · rcases bif_elim h with ⟨hb3, h⟩ | ⟨hb3, h⟩
          · refine Run.regN hX [(2, .b true), (9, .b false), (16, .b false), (21, .b true)] 1000 [3, 5, 9, 11, 14, 15, 16, 67] [101, 201, 502] ⟨[(3, (.d t2 x46)), (5, (.ptr 101 0)), (9, (.ptr 201 0)), (11, (.ptr 502 0)), (14, (.d t31 x48)), (15, (.d t2 x49)), (16, (.d t2 x50)), (67, (.d t4 (decide (x55.2.1.2.2 ≤ x54.2.2))))], [(101, (.box (.vcons (.d t25 x53) .vnil))), (201, (.box (.vcons (.d t25 x54) .vnil))), (502, (.box (.vcons (.d t66 x55) .vnil)))]⟩ [(!x47) = true, (x55.2.1.2.2 != x54.2.2) = false, (decide (x54.2.2 < x46)) = false, (decide (x55.2.1.2.2 < (1000 : Int))) = true] (by kernel_rfl) (by kernel_rfl) ⟨hb0, hb1, hb2, hb3, trivial⟩ ?_
            refine Run.condN (decide (x55.2.1.2.2 ≤ x54.2.2)) (by kernel_rfl) (fun hb => ?_) (fun hb => ?_)
            · replace h := bif_t h hb
              refine Run.regN hX [] 1100 [8] [] ⟨[(8, (.d t4 false))], []⟩ [] (by kernel_rfl) (by kernel_rfl) trivial ?_
              refine Run.retN (by kernel_rfl) ?_
              replace h := Option.some.inj h
              subst h
              exact ⟨rfl, [(.d t4 false)], by kernel_rfl, by kernel_rfl⟩
            · replace h := bif_f h hb
              refine Run.keep (s' := ⟨[(3, (.d t2 x46)), (5, (.ptr 101 0)), (9, (.ptr 201 0)), (11, (.ptr 502 0)), (14, (.d t31 x48)), (15, (.d t2 x49)), (16, (.d t2 x50))], [(101, (.box (.vcons (.d t25 x53) .vnil))), (201, (.box (.vcons (.d t25 x54) .vnil))), (502, (.box (.vcons (.d t66 x55) .vnil)))]⟩) [3, 5, 9, 11, 14, 15, 16] [101, 201, 502] (by kernel_rfl) ?_
              refine Run.skipN (by kernel_rfl) ?_
              replace h := Option.some.inj h
              subst h
              exact ⟨rfl, by kernel_rfl⟩
          · refine Run.regN hX [(2, .b true), (9, .b false), (16, .b false), (21, .b false)] 1000 [3, 5, 9, 11, 14, 15, 16, 67] [101, 201, 502] ⟨[(3, (.d t2 x46)), (5, (.ptr 101 0)), (9, (.ptr 201 0)), (11, (.ptr 502 0)), (14, (.d t31 x48)), (15, (.d t2 x49)), (16, (.d t2 x50)), (67, (.d t4 false))], [(101, (.box (.vcons (.d t25 x53) .vnil))), (201, (.box (.vcons (.d t25 x54) .vnil))), (502, (.box (.vcons (.d t66 x55) .vnil)))]⟩ [(!x47) = true, (x55.2.1.2.2 != x54.2.2) = false, (decide (x54.2.2 < x46)) = false, (decide (x55.2.1.2.2 < (1000 : Int))) = false] (by kernel_rfl) (by kernel_rfl) ⟨hb0, hb1, hb2, hb3, trivial⟩ ?_
            refine Run.condN false (by kernel_rfl) (fun hb => (by cases hb)) (fun hb => ?_)
            refine Run.keep (s' := ⟨[(3, (.d t2 x46)), (5, (.ptr 101 0)), (9, (.ptr 201 0)), (11, (.ptr 502 0)), (14, (.d t31 x48)), (15, (.d t2 x49)), (16, (.d t2 x50))], [(101, (.box (.vcons (.d t25 x53) .vnil))), (201, (.box (.vcons (.d t25 x54) .vnil))), (502, (.box (.vcons (.d t66 x55) .vnil)))]⟩) [3, 5, 9, 11, 14, 15, 16] [101, 201, 502] (by kernel_rfl) ?_
            refine Run.skipN (by kernel_rfl) ?_
            replace h := Option.some.inj h
            subst h
            exact ⟨rfl, by kernel_rfl⟩
    · rcases bif_elim h with ⟨hb1, h⟩ | ⟨hb1, h⟩
      · refine Run.regN hX [(2, .b false), (21, .b true)] 1000 [3, 5, 9, 11, 14, 15, 16, 67] [101, 201, 502] ⟨[(3, (.d t2 x46)), (5, (.ptr 101 0)), (9, (.ptr 201 0)), (11, (.ptr 502 0)), (14, (.d t31 x48)), (15, (.d t2 x49)), (16, (.d t2 x50)), (67, (.d t4 (decide (x55.2.1.2.2 ≤ x54.2.2))))], [(101, (.box (.vcons (.d t25 x53) .vnil))), (201, (.box (.vcons (.d t25 x54) .vnil))), (502, (.box (.vcons (.d t66 x55) .vnil)))]⟩ [(!x47) = false, (decide (x55.2.1.2.2 < (1000 : Int))) = true] (by kernel_rfl) (by kernel_rfl) ⟨hb0, hb1, trivial⟩ ?_
        refine Run.condN (decide (x55.2.1.2.2 ≤ x54.2.2)) (by kernel_rfl) (fun hb => ?_) (fun hb => ?_)
        · replace h := bif_t h hb
          refine Run.regN hX [] 1100 [8] [] ⟨[(8, (.d t4 false))], []⟩ [] (by kernel_rfl) (by kernel_rfl) trivial ?_
          refine Run.retN (by kernel_rfl) ?_
          replace h := Option.some.inj h
          subst h
          exact ⟨rfl, [(.d t4 false)], by kernel_rfl, by kernel_rfl⟩
        · replace h := bif_f h hb
          refine Run.keep (s' := ⟨[(3, (.d t2 x46)), (5, (.ptr 101 0)), (9, (.ptr 201 0)), (11, (.ptr 502 0)), (14, (.d t31 x48)), (15, (.d t2 x49)), (16, (.d t2 x50))], [(101, (.box (.vcons (.d t25 x53) .vnil))), (201, (.box (.vcons (.d t25 x54) .vnil))), (502, (.box (.vcons (.d t66 x55) .vnil)))]⟩) [3, 5, 9, 11, 14, 15, 16] [101, 201, 502] (by kernel_rfl) ?_
          refine Run.skipN (by kernel_rfl) ?_
          replace h := Option.some.inj h
          subst h
          exact ⟨rfl, by kernel_rfl⟩
      · refine Run.regN hX [(2, .b false), (21, .b false)] 1000 [3, 5, 9, 11, 14, 15, 16, 67] [101, 201, 502] ⟨[(3, (.d t2 x46)), (5, (.ptr 101 0)), (9, (.ptr 201 0)), (11, (.ptr 502 0)), (14, (.d t31 x48)), (15, (.d t2 x49)), (16, (.d t2 x50)), (67, (.d t4 false))], [(101, (.box (.vcons (.d t25 x53) .vnil))), (201, (.box (.vcons (.d t25 x54) .vnil))), (502, (.box (.vcons (.d t66 x55) .vnil)))]⟩ [(!x47) = false, (decide (x55.2.1.2.2 < (1000 : Int))) = false] (by kernel_rfl) (by kernel_rfl) ⟨hb0, hb1, trivial⟩ ?_
        refine Run.condN false (by kernel_rfl) (fun hb => (by cases hb)) (fun hb => ?_)
        refine Run.keep (s' := ⟨[(3, (.d t2 x46)), (5, (.ptr 101 0)), (9, (.ptr 201 0)), (11, (.ptr 502 0)), (14, (.d t31 x48)), (15, (.d t2 x49)), (16, (.d t2 x50))], [(101, (.box (.vcons (.d t25 x53) .vnil))), (201, (.box (.vcons (.d t25 x54) .vnil))), (502, (.box (.vcons (.d t66 x55) .vnil)))]⟩) [3, 5, 9, 11, 14, 15, 16] [101, 201, 502] (by kernel_rfl) ?_
        refine Run.skipN (by kernel_rfl) ?_
        replace h := Option.some.inj h
        subst h
        exact ⟨rfl, by kernel_rfl⟩
  · replace h := bif_f h hb
    refine Run.regN hX [] 1200 [3, 5, 9, 11, 12, 14, 15, 16, 68] [101, 201, 502] ⟨[(3, (.d t2 x46)), (5, (.ptr 101 0)), (9, (.ptr 201 0)), (11, (.ptr 502 0)), (12, (.d t4 x47)), (14, (.d t31 x48)), (15, (.d t2 x49)), (16, (.d t2 x50)), (68, (.d t4 (x51 == (2 : Int))))], [(101, (.box (.vcons (.d t25 x53) .vnil))), (201, (.box (.vcons (.d t25 x54) .vnil))), (502, (.box (.vcons (.d t66 x55) .vnil)))]⟩ [] (by kernel_rfl) (by kernel_rfl) trivial ?_
    refine Run.condN (x51 == (2 : Int)) (by kernel_rfl) (fun hb => ?_) (fun hb => ?_)
    · replace h := bif_t h hb
      rcases bif_elim h with ⟨hb0, h⟩ | ⟨hb0, h⟩
      · refine Run.regN hX [(2, .b true)] 1300 [3, 5, 9, 11, 14, 15, 16, 79] [101, 201, 502] ⟨[(3, (.d t2 x46)), (5, (.ptr 101 0)), (9, (.ptr 201 0)), (11, (.ptr 502 0)), (14, (.d t31 x48)), (15, (.d t2 x49)), (16, (.d t2 x50)), (79, (.d t4 true))], [(101, (.box (.vcons (.d t25 x53) .vnil))), (201, (.box (.vcons (.d t25 x54) .vnil))), (502, (.box (.vcons (.d t66 x55) .vnil)))]⟩ [(!x47) = true] (by kernel_rfl) (by kernel_rfl) ⟨hb0, trivial⟩ ?_
        refine Run.condN true (by kernel_rfl) (fun hb => ?_) (fun hb => (by cases hb))
        refine Run.regN hX [] 1400 [8] [] ⟨[(8, (.d t4 false))], []⟩ [] (by kernel_rfl) (by kernel_rfl) trivial ?_
        refine Run.retN (by kernel_rfl) ?_
        replace h := Option.some.inj h
        subst h
        exact ⟨rfl, [(.d t4 false)], by kernel_rfl, by kernel_rfl⟩
      · refine Run.regN hX [(2, .b false)] 1300 [3, 5, 9, 11, 14, 15, 16, 79] [101, 201, 502] ⟨[(3, (.d t2 x46)), (5, (.ptr 101 0)), (9, (.ptr 201 0)), (11, (.ptr 502 0)), (14, (.d t31 x48)), (15, (.d t2 x49)), (16, (.d t2 x50)), (79, (.d t4 (decide (x54.2.2 ≤ x55.2.1.2.2))))], [(101, (.box (.vcons (.d t25 x53) .vnil))), (201, (.box (.vcons (.d t25 x54) .vnil))), (502, (.box (.vcons (.d t66 x55) .vnil)))]⟩ [(!x47) = false] (by kernel_rfl) (by kernel_rfl) ⟨hb0, trivial⟩ ?_
        refine Run.condN (decide (x54.2.2 ≤ x55.2.1.2.2)) (by kernel_rfl) (fun hb => ?_) (fun hb => ?_)
        · replace h := bif_t h hb
          refine Run.regN hX [] 1400 [8] [] ⟨[(8, (.d t4 false))], []⟩ [] (by kernel_rfl) (by kernel_rfl) trivial ?_
          refine Run.retN (by kernel_rfl) ?_
          replace h := Option.some.inj h
          subst h
          exact ⟨rfl, [(.d t4 false)], by kernel_rfl, by kernel_rfl⟩
        · replace h := bif_f h hb
          refine Run.keep (s' := ⟨[(3, (.d t2 x46)), (5, (.ptr 101 0)), (9, (.ptr 201 0)), (11, (.ptr 502 0)), (14, (.d t31 x48)), (15, (.d t2 x49)), (16, (.d t2 x50))], [(101, (.box (.vcons (.d t25 x53) .vnil))), (201, (.box (.vcons (.d t25 x54) .vnil))), (502, (.box (.vcons (.d t66 x55) .vnil)))]⟩) [3, 5, 9, 11, 14, 15, 16] [101, 201, 502] (by kernel_rfl) ?_
          refine Run.skipN (by kernel_rfl) ?_
          replace h := Option.some.inj h
          subst h
          exact ⟨rfl, by kernel_rfl⟩
    · replace h := bif_f h hb
      refine Run.regN hX [] 800 [8] [] ⟨[(8, (.d t4 false))], []⟩ [] (by kernel_rfl) (by kernel_rfl) trivial ?_
      refine Run.retN (by kernel_rfl) ?_
      replace h := Option.some.inj h
      subst h
      exact ⟨rfl, [(.d t4 false)], by kernel_rfl, by kernel_rfl⟩

def f8_l0_post (x1 : Int) (x2 : List (Int × (Int × Int × Int) × (Int × Int) × Int)) (x3 : Int) (x5 : Int × Int × Int) : (((Int × Int × Int)) ⊕ (Bool)) → Ex → St → Prop
  | .inl o, x, s => x = .out 0 ∧ s = ⟨[(5, (.ptr 101 0)), (9, (.ptr 201 0))], [(101, (.box (.vcons (.d t25 x5) .vnil))), (201, (.box (.vcons (.d t25 o) .vnil)))]⟩
  | .inr o, x, s => x = .ret ∧ fin8  o x s

def f8_l0_b (x1 : Int) (x2 : List (Int × (Int × Int × Int) × (Int × Int) × Int)) (x3 : Int) (again : Int × (Int × Int × Int) → Option (((Int × Int × Int)) ⊕ (Bool))) : Int × (Int × Int × Int) → Option (((Int × Int × Int)) ⊕ (Bool))
  | (x4, x6) =>
    (bif (decide (x4 < x3)) then
      gd (0 ≤ x4) <|
      gd (x4 < ((List.length x2 : Nat) : Int)) <|
      (bif ((List.getD x2 (toN x4) ((0 : Int), ((0 : Int), (0 : Int), (0 : Int)), ((0 : Int), (0 : Int)), (0 : Int))).2.1.1 == x6.1) then
        ((f8_c1 x1 ((List.getD x2 (toN x4) ((0 : Int), ((0 : Int), (0 : Int), (0 : Int)), ((0 : Int), (0 : Int)), (0 : Int))).2.1.2.1 == x6.2.1) (List.getD x2 (toN x4) ((0 : Int), ((0 : Int), (0 : Int), (0 : Int)), ((0 : Int), (0 : Int)), (0 : Int))).1 ((List.getD x2 (toN x4) ((0 : Int), ((0 : Int), (0 : Int), (0 : Int)), ((0 : Int), (0 : Int)), (0 : Int))).1 == (1 : Int)) x6 (List.getD x2 (toN x4) ((0 : Int), ((0 : Int), (0 : Int), (0 : Int)), ((0 : Int), (0 : Int)), (0 : Int)))).bind fun o43 => match o43 with
          | .inl o44 =>
              again ((wrapI .i64 (x4 + (1 : Int))), (List.getD x2 (toN x4) ((0 : Int), ((0 : Int), (0 : Int), (0 : Int)), ((0 : Int), (0 : Int)), (0 : Int))).2.1)
          | .inr o45 =>
              some (.inr o45))
      else
        ((f8_c2 x1 false (List.getD x2 (toN x4) ((0 : Int), ((0 : Int), (0 : Int), (0 : Int)), ((0 : Int), (0 : Int)), (0 : Int))).1 ((List.getD x2 (toN x4) ((0 : Int), ((0 : Int), (0 : Int), (0 : Int)), ((0 : Int), (0 : Int)), (0 : Int))).1 == (1 : Int)) x6 (List.getD x2 (toN x4) ((0 : Int), ((0 : Int), (0 : Int), (0 : Int)), ((0 : Int), (0 : Int)), (0 : Int)))).bind fun o56 => match o56 with
          | .inl o57 =>
              again ((wrapI .i64 (x4 + (1 : Int))), (List.getD x2 (toN x4) ((0 : Int), ((0 : Int), (0 : Int), (0 : Int)), ((0 : Int), (0 : Int)), (0 : Int))).2.1)
          | .inr o58 =>
              some (.inr o58)))
    else
      some (.inl x6))

def f8_l0 (x1 : Int) (x2 : List (Int × (Int × Int × Int) × (Int × Int) × Int)) (x3 : Int) : Nat → Int × (Int × Int × Int) → Option (((Int × Int × Int)) ⊕ (Bool)) := loopF (f8_l0_b x1 x2 x3)

theorem f8_l0_ok (x1 : Int) (x2 : List (Int × (Int × Int × Int) × (Int × Int) × Int)) (x3 : Int) (x5 : Int × Int × Int) (k : Nat) (x4 : Int) (x6 : Int × Int × Int) {out : (((Int × Int × Int)) ⊕ (Bool))} (h : f8_l0 x1 x2 x3 k (x4, x6) = some out) : Run Pg 86 (bk1 (sq2 (sq1 (sq2 (sq2 c_8))))) ⟨[(3, (.d t2 x1)), (5, (.ptr 101 0)), (9, (.ptr 201 0)), (14, (.d t31 x2)), (15, (.d t2 x3)), (16, (.d t2 x4))], [(101, (.box (.vcons (.d t25 x5) .vnil))), (201, (.box (.vcons (.d t25 x6) .vnil)))]⟩ (f8_l0_post x1 x2 x3 x5 out) := by
  refine Run.loopN (by kernel_rfl) (fun m s => ∃ x4 x6, s = ⟨[(3, (.d t2 x1)), (5, (.ptr 101 0)), (9, (.ptr 201 0)), (14, (.d t31 x2)), (15, (.d t2 x3)), (16, (.d t2 x4))], [(101, (.box (.vcons (.d t25 x5) .vnil))), (201, (.box (.vcons (.d t25 x6) .vnil)))]⟩ ∧ f8_l0 x1 x2 x3 m (x4, x6) = some out) ?_ k ⟨x4, x6,  rfl, h⟩
  rintro m s ⟨x4, x6,  rfl, h⟩
  cases m with
  | zero => cases h
  | succ m =>
  replace h : f8_l0_b x1 x2 x3 (f8_l0 x1 x2 x3 m) (x4, x6) = some out := h
  unfold f8_l0_b at h
  refine Run.regN hX [] 400 [3, 5, 9, 14, 15, 16, 17] [101, 201] ⟨[(3, (.d t2 x1)), (5, (.ptr 101 0)), (9, (.ptr 201 0)), (14, (.d t31 x2)), (15, (.d t2 x3)), (16, (.d t2 x4)), (17, (.d t4 (decide (x4 < x3))))], [(101, (.box (.vcons (.d t25 x5) .vnil))), (201, (.box (.vcons (.d t25 x6) .vnil)))]⟩ [] (by kernel_rfl) (by kernel_rfl) trivial ?_
  refine Run.seqN (by kernel_rfl) ?_
  refine Run.condN (decide (x4 < x3)) (by kernel_rfl) (fun hb => ?_) (fun hb => ?_)
  · replace h := bif_t h hb
    refine Run.skipN (by kernel_rfl) ?_
    show Run Pg 86 _ _ _
    refine Run.seqN (by kernel_rfl) ?_
    refine Run.blockN 1 (by kernel_rfl) ?_
    obtain ⟨g_0, h⟩ := gd_elim h
    obtain ⟨g_1, h⟩ := gd_elim h
    refine Run.regN hX [] 500 [3, 5, 9, 11, 14, 15, 16] [101, 201, 502] ⟨[(3, (.d t2 x1)), (5, (.ptr 101 0)), (9, (.ptr 201 0)), (11, (.ptr 502 0)), (14, (.d t31 x2)), (15, (.d t2 x3)), (16, (.d t2 x4))], [(101, (.box (.vcons (.d t25 x5) .vnil))), (201, (.box (.vcons (.d t25 x6) .vnil))), (502, (.box (.vcons (.d t66 (List.getD x2 (toN x4) ((0 : Int), ((0 : Int), (0 : Int), (0 : Int)), ((0 : Int), (0 : Int)), (0 : Int)))) .vnil)))]⟩ [(0 ≤ x4), (x4 < ((List.length x2 : Nat) : Int))] (by kernel_rfl) (by kernel_rfl) ⟨g_0, g_1, trivial⟩ ?_
    rcases bif_elim h with ⟨hb0, h⟩ | ⟨hb0, h⟩
    · refine Run.regN hX [(6, .b true)] 600 [3, 5, 9, 11, 12, 14, 15, 16] [101, 201, 502] ⟨[(3, (.d t2 x1)), (5, (.ptr 101 0)), (9, (.ptr 201 0)), (11, (.ptr 502 0)), (12, (.d t4 ((List.getD x2 (toN x4) ((0 : Int), ((0 : Int), (0 : Int), (0 : Int)), ((0 : Int), (0 : Int)), (0 : Int))).2.1.2.1 == x6.2.1))), (14, (.d t31 x2)), (15, (.d t2 x3)), (16, (.d t2 x4))], [(101, (.box (.vcons (.d t25 x5) .vnil))), (201, (.box (.vcons (.d t25 x6) .vnil))), (502, (.box (.vcons (.d t66 (List.getD x2 (toN x4) ((0 : Int), ((0 : Int), (0 : Int), (0 : Int)), ((0 : Int), (0 : Int)), (0 : Int)))) .vnil)))]⟩ [((List.getD x2 (toN x4) ((0 : Int), ((0 : Int), (0 : Int), (0 : Int)), ((0 : Int), (0 : Int)), (0 : Int))).2.1.1 == x6.1) = true] (by kernel_rfl) (by kernel_rfl) ⟨hb0, trivial⟩ ?_
      refine Run.seqN (by kernel_rfl) ?_
      refine Run.regN hX [] 700 [3, 5, 9, 11, 12, 14, 15, 16, 35] [101, 201, 502] ⟨[(3, (.d t2 x1)), (5, (.ptr 101 0)), (9, (.ptr 201 0)), (11, (.ptr 502 0)), (12, (.d t4 ((List.getD x2 (toN x4) ((0 : Int), ((0 : Int), (0 : Int), (0 : Int)), ((0 : Int), (0 : Int)), (0 : Int))).2.1.2.1 == x6.2.1))), (14, (.d t31 x2)), (15, (.d t2 x3)), (16, (.d t2 x4)), (35, (.d t2 (List.getD x2 (toN x4) ((0 : Int), ((0 : Int), (0 : Int), (0 : Int)), ((0 : Int), (0 : Int)), (0 : Int))).1))], [(101, (.box (.vcons (.d t25 x5) .vnil))), (201, (.box (.vcons (.d t25 x6) .vnil))), (502, (.box (.vcons (.d t66 (List.getD x2 (toN x4) ((0 : Int), ((0 : Int), (0 : Int), (0 : Int)), ((0 : Int), (0 : Int)), (0 : Int)))) .vnil)))]⟩ [] (by kernel_rfl) (by kernel_rfl) trivial ?_
      refine Run.blockN 2 (by kernel_rfl) ?_
      refine Run.regN hX [] 900 [3, 5, 9, 11, 12, 14, 15, 16, 35, 36] [101, 201, 502] ⟨[(3, (.d t2 x1)), (5, (.ptr 101 0)), (9, (.ptr 201 0)), (11, (.ptr 502 0)), (12, (.d t4 ((List.getD x2 (toN x4) ((0 : Int), ((0 : Int), (0 : Int), (0 : Int)), ((0 : Int), (0 : Int)), (0 : Int))).2.1.2.1 == x6.2.1))), (14, (.d t31 x2)), (15, (.d t2 x3)), (16, (.d t2 x4)), (35, (.d t2 (List.getD x2 (toN x4) ((0 : Int), ((0 : Int), (0 : Int), (0 : Int)), ((0 : Int), (0 : Int)), (0 : Int))).1)), (36, (.d t4 ((List.getD x2 (toN x4) ((0 : Int), ((0 : Int), (0 : Int), (0 : Int)), ((0 : Int), (0 : Int)), (0 : Int))).1 == (1 : Int))))], [(101, (.box (.vcons (.d t25 x5) .vnil))), (201, (.box (.vcons (.d t25 x6) .vnil))), (502, (.box (.vcons (.d t66 (List.getD x2 (toN x4) ((0 : Int), ((0 : Int), (0 : Int), (0 : Int)), ((0 : Int), (0 : Int)), (0 : Int)))) .vnil)))]⟩ [] (by kernel_rfl) (by kernel_rfl) trivial ?_
      obtain ⟨o43, h_o43, h⟩ := bnd_elim h
      refine Run.mono (f8_c1_ok x1 ((List.getD x2 (toN x4) ((0 : Int), ((0 : Int), (0 : Int), (0 : Int)), ((0 : Int), (0 : Int)), (0 : Int))).2.1.2.1 == x6.2.1) x2 x3 x4 (List.getD x2 (toN x4) ((0 : Int), ((0 : Int), (0 : Int), (0 : Int)), ((0 : Int), (0 : Int)), (0 : Int))).1 ((List.getD x2 (toN x4) ((0 : Int), ((0 : Int), (0 : Int), (0 : Int)), ((0 : Int), (0 : Int)), (0 : Int))).1 == (1 : Int)) x5 x6 (List.getD x2 (toN x4) ((0 : Int), ((0 : Int), (0 : Int), (0 : Int)), ((0 : Int), (0 : Int)), (0 : Int))) h_o43) ?_
      rcases o43 with o44 | o45
      · rintro x s ⟨hx, hs⟩
        subst hx
        subst hs
        show Run Pg 86 _ _ _
        refine Run.regE hX [] 1500 [3, 5, 9, 14, 15, 16] [101, 201] ⟨[(3, (.d t2 x1)), (5, (.ptr 101 0)), (9, (.ptr 201 0)), (14, (.d t31 x2)), (15, (.d t2 x3)), (16, (.d t2 x4))], [(101, (.box (.vcons (.d t25 x5) .vnil))), (201, (.box (.vcons (.d t25 (List.getD x2 (toN x4) ((0 : Int), ((0 : Int), (0 : Int), (0 : Int)), ((0 : Int), (0 : Int)), (0 : Int))).2.1) .vnil)))]⟩ [] (by kernel_rfl) trivial ?_
        show Run Pg 86 _ _ _
        refine Run.regE hX [] 1600 [3, 5, 9, 14, 15, 16] [101, 201] ⟨[(3, (.d t2 x1)), (5, (.ptr 101 0)), (9, (.ptr 201 0)), (14, (.d t31 x2)), (15, (.d t2 x3)), (16, (.d t2 (wrapI .i64 (x4 + (1 : Int)))))], [(101, (.box (.vcons (.d t25 x5) .vnil))), (201, (.box (.vcons (.d t25 (List.getD x2 (toN x4) ((0 : Int), ((0 : Int), (0 : Int), (0 : Int)), ((0 : Int), (0 : Int)), (0 : Int))).2.1) .vnil)))]⟩ [] (by kernel_rfl) trivial ?_
        exact ⟨m, Nat.lt_succ_self m, _, _, rfl, h⟩
      · rintro x s ⟨hx, hr⟩
        subst hx
        replace h := Option.some.inj h
        subst h
        exact ⟨rfl, hr⟩
    · refine Run.regN hX [(6, .b false)] 600 [3, 5, 9, 11, 12, 14, 15, 16] [101, 201, 502] ⟨[(3, (.d t2 x1)), (5, (.ptr 101 0)), (9, (.ptr 201 0)), (11, (.ptr 502 0)), (12, (.d t4 false)), (14, (.d t31 x2)), (15, (.d t2 x3)), (16, (.d t2 x4))], [(101, (.box (.vcons (.d t25 x5) .vnil))), (201, (.box (.vcons (.d t25 x6) .vnil))), (502, (.box (.vcons (.d t66 (List.getD x2 (toN x4) ((0 : Int), ((0 : Int), (0 : Int), (0 : Int)), ((0 : Int), (0 : Int)), (0 : Int)))) .vnil)))]⟩ [((List.getD x2 (toN x4) ((0 : Int), ((0 : Int), (0 : Int), (0 : Int)), ((0 : Int), (0 : Int)), (0 : Int))).2.1.1 == x6.1) = false] (by kernel_rfl) (by kernel_rfl) ⟨hb0, trivial⟩ ?_
      refine Run.seqN (by kernel_rfl) ?_
      refine Run.regN hX [] 700 [3, 5, 9, 11, 12, 14, 15, 16, 35] [101, 201, 502] ⟨[(3, (.d t2 x1)), (5, (.ptr 101 0)), (9, (.ptr 201 0)), (11, (.ptr 502 0)), (12, (.d t4 false)), (14, (.d t31 x2)), (15, (.d t2 x3)), (16, (.d t2 x4)), (35, (.d t2 (List.getD x2 (toN x4) ((0 : Int), ((0 : Int), (0 : Int), (0 : Int)), ((0 : Int), (0 : Int)), (0 : Int))).1))], [(101, (.box (.vcons (.d t25 x5) .vnil))), (201, (.box (.vcons (.d t25 x6) .vnil))), (502, (.box (.vcons (.d t66 (List.getD x2 (toN x4) ((0 : Int), ((0 : Int), (0 : Int), (0 : Int)), ((0 : Int), (0 : Int)), (0 : Int)))) .vnil)))]⟩ [] (by kernel_rfl) (by kernel_rfl) trivial ?_
      refine Run.blockN 2 (by kernel_rfl) ?_
      refine Run.regN hX [] 900 [3, 5, 9, 11, 12, 14, 15, 16, 35, 36] [101, 201, 502] ⟨[(3, (.d t2 x1)), (5, (.ptr 101 0)), (9, (.ptr 201 0)), (11, (.ptr 502 0)), (12, (.d t4 false)), (14, (.d t31 x2)), (15, (.d t2 x3)), (16, (.d t2 x4)), (35, (.d t2 (List.getD x2 (toN x4) ((0 : Int), ((0 : Int), (0 : Int), (0 : Int)), ((0 : Int), (0 : Int)), (0 : Int))).1)), (36, (.d t4 ((List.getD x2 (toN x4) ((0 : Int), ((0 : Int), (0 : Int), (0 : Int)), ((0 : Int), (0 : Int)), (0 : Int))).1 == (1 : Int))))], [(101, (.box (.vcons (.d t25 x5) .vnil))), (201, (.box (.vcons (.d t25 x6) .vnil))), (502, (.box (.vcons (.d t66 (List.getD x2 (toN x4) ((0 : Int), ((0 : Int), (0 : Int), (0 : Int)), ((0 : Int), (0 : Int)), (0 : Int)))) .vnil)))]⟩ [] (by kernel_rfl) (by kernel_rfl) trivial ?_
      obtain ⟨o56, h_o56, h⟩ := bnd_elim h
      refine Run.mono (f8_c2_ok x1 false x2 x3 x4 (List.getD x2 (toN x4) ((0 : Int), ((0 : Int), (0 : Int), (0 : Int)), ((0 : Int), (0 : Int)), (0 : Int))).1 ((List.getD x2 (toN x4) ((0 : Int), ((0 : Int), (0 : Int), (0 : Int)), ((0 : Int), (0 : Int)), (0 : Int))).1 == (1 : Int)) x5 x6 (List.getD x2 (toN x4) ((0 : Int), ((0 : Int), (0 : Int), (0 : Int)), ((0 : Int), (0 : Int)), (0 : Int))) h_o56) ?_
      rcases o56 with o57 | o58
      · rintro x s ⟨hx, hs⟩
        subst hx
        subst hs
        show Run Pg 86 _ _ _
        refine Run.regE hX [] 1500 [3, 5, 9, 14, 15, 16] [101, 201] ⟨[(3, (.d t2 x1)), (5, (.ptr 101 0)), (9, (.ptr 201 0)), (14, (.d t31 x2)), (15, (.d t2 x3)), (16, (.d t2 x4))], [(101, (.box (.vcons (.d t25 x5) .vnil))), (201, (.box (.vcons (.d t25 (List.getD x2 (toN x4) ((0 : Int), ((0 : Int), (0 : Int), (0 : Int)), ((0 : Int), (0 : Int)), (0 : Int))).2.1) .vnil)))]⟩ [] (by kernel_rfl) trivial ?_
        show Run Pg 86 _ _ _
        refine Run.regE hX [] 1600 [3, 5, 9, 14, 15, 16] [101, 201] ⟨[(3, (.d t2 x1)), (5, (.ptr 101 0)), (9, (.ptr 201 0)), (14, (.d t31 x2)), (15, (.d t2 x3)), (16, (.d t2 (wrapI .i64 (x4 + (1 : Int)))))], [(101, (.box (.vcons (.d t25 x5) .vnil))), (201, (.box (.vcons (.d t25 (List.getD x2 (toN x4) ((0 : Int), ((0 : Int), (0 : Int), (0 : Int)), ((0 : Int), (0 : Int)), (0 : Int))).2.1) .vnil)))]⟩ [] (by kernel_rfl) trivial ?_
        exact ⟨m, Nat.lt_succ_self m, _, _, rfl, h⟩
      · rintro x s ⟨hx, hr⟩
        subst hx
        replace h := Option.some.inj h
        subst h
        exact ⟨rfl, hr⟩
  · replace h := bif_f h hb
    refine Run.keep (s' := ⟨[(5, (.ptr 101 0)), (9, (.ptr 201 0))], [(101, (.box (.vcons (.d t25 x5) .vnil))), (201, (.box (.vcons (.d t25 x6) .vnil)))]⟩) [5, 9] [101, 201] (by kernel_rfl) ?_
    refine Run.exitN 0 (by kernel_rfl) ?_
    replace h := Option.some.inj h
    subst h
    exact ⟨rfl, by kernel_rfl⟩

def F8 (a0 : Int × Int × Int) (a1 : Int × Int × Int) (a2 : List (Int × (Int × Int × Int) × (Int × Int) × Int)) (a3 : Int) : Option (Bool) :=
  ((f8_l0 a3 a2 (ofN (List.length a2)) (2 + List.length a2) ((0 : Int), a0)).bind fun o59 => match o59 with
    | .inl o60 =>
        some (eqD t25 o60 a1)
    | .inr o61 =>
        some o61)

theorem c8 {a0 : Int × Int × Int} {a1 : Int × Int × Int} {a2 : List (Int × (Int × Int × Int) × (Int × Int) × Int)} {a3 : Int} {r : Bool} (h : F8 a0 a1 a2 a3 = some r) : CallPure Pg 8 [(.d t25 a0), (.d t25 a1), (.d t31 a2), (.d t2 a3)] (.d t4 r) := by
  refine callPureN hX c_8 86 [.tmp 8] [4] Go.Proofs.Try.func8 (by kernel_rfl) (by kernel_rfl) (by kernel_rfl) (Nat.le_of_ble_eq_true rfl) rfl rfl ?_
  show Run Pg 86 c_8 ⟨[(0, (.d t25 a0)), (1, (.d t25 a1)), (2, (.d t31 a2)), (3, (.d t2 a3))], []⟩ (fin8 r)
  unfold F8 at h
  refine Run.regN hX [] 100 [2, 3, 4, 5] [100, 101] ⟨[(2, (.d t31 a2)), (3, (.d t2 a3)), (4, (.ptr 100 0)), (5, (.ptr 101 0))], [(100, (.box (.vcons (.d t25 a0) .vnil))), (101, (.box (.vcons (.d t25 a1) .vnil)))]⟩ [] (by kernel_rfl) (by kernel_rfl) trivial ?_
  refine Run.regN hX [] 200 [2, 3, 5, 9] [101, 201] ⟨[(2, (.d t31 a2)), (3, (.d t2 a3)), (5, (.ptr 101 0)), (9, (.ptr 201 0))], [(101, (.box (.vcons (.d t25 a1) .vnil))), (201, (.box (.vcons (.d t25 a0) .vnil)))]⟩ [] (by kernel_rfl) (by kernel_rfl) trivial ?_
  refine Run.seqN (by kernel_rfl) ?_
  refine Run.regN hX [] 300 [3, 5, 9, 14, 15, 16] [101, 201] ⟨[(3, (.d t2 a3)), (5, (.ptr 101 0)), (9, (.ptr 201 0)), (14, (.d t31 a2)), (15, (.d t2 (ofN (List.length a2)))), (16, (.d t2 (0 : Int)))], [(101, (.box (.vcons (.d t25 a1) .vnil))), (201, (.box (.vcons (.d t25 a0) .vnil)))]⟩ [] (by kernel_rfl) (by kernel_rfl) trivial ?_
  refine Run.blockN 0 (by kernel_rfl) ?_
  obtain ⟨o59, h_o59, h⟩ := bnd_elim h
  refine Run.mono (f8_l0_ok a3 a2 (ofN (List.length a2)) a1 _ (0 : Int) a0 h_o59) ?_
  rcases o59 with o60 | o61
  · rintro x s ⟨hx, hs⟩
    subst hx
    subst hs
    show Run Pg 86 _ _ _
    refine Run.regN hX [] 1700 [8] [] ⟨[(8, (.d t4 (eqD t25 o60 a1)))], []⟩ [] (by kernel_rfl) (by kernel_rfl) trivial ?_
    refine Run.retN (by kernel_rfl) ?_
    replace h := Option.some.inj h
    subst h
    exact ⟨[(.d t4 (eqD t25 o60 a1))], by kernel_rfl, by kernel_rfl⟩
  · rintro x s ⟨hx, hr⟩
    subst hx
    replace h := Option.some.inj h
    subst h
    exact hr

/-! ## f3 -/

noncomputable def c_3 : Code := body0 Go.Proofs.Try.f3

def fin3 (r : Bool) : Ex → St → Prop := endK X0 [.tmp 6] [4] (.d t4 r)

def F3 (a0 : Int × Int × Int × Int × Int × Int × (List (Int × Int × Int × Int × Int)) × Int) (a1 : (Int × Int × Int) × (Int × Int × Int)) (a2 : Int × Int) : Option (Bool) :=
  (F5 ).bind fun y1 =>
  (bif (!y1) then
    (F5 ).bind fun y3 =>
    some y3
  else
    (F6 a0 ([] : List Int)).bind fun y2 =>
    (bif (!y2) then
      (F5 ).bind fun y4 =>
      some y4
    else
      (F7 a0 a1.1 a1.2 a2.1 a2.2).bind fun y5 =>
      (bif (y5.2 != (0 : Int)) then
        some ((ofN (List.length y5.1)) == (0 : Int))
      else
        (F10 a1.1.1 a1.1.2.1).bind fun y6 =>
        (F10 a1.2.1 a1.2.2.1).bind fun y7 =>
        (F9 a0 y6 y7 a2.1).bind fun y8 =>
        (F8 a1.1 a1.2 y5.1 y8).bind fun y9 =>
        some y9)))

theorem c3 {a0 : Int × Int × Int × Int × Int × Int × (List (Int × Int × Int × Int × Int)) × Int} {a1 : (Int × Int × Int) × (Int × Int × Int)} {a2 : Int × Int} {r : Bool} (h : F3 a0 a1 a2 = some r) : CallPure Pg 3 [(.d t23 a0), (.d t27 a1), (.d t28 a2)] (.d t4 r) := by
  refine callPureN hX c_3 59 [.tmp 6] [4] Go.Proofs.Try.func3 (by kernel_rfl) (by kernel_rfl) (by kernel_rfl) (Nat.le_of_ble_eq_true rfl) rfl rfl ?_
  show Run Pg 59 c_3 ⟨[(0, (.d t23 a0)), (1, (.d t27 a1)), (2, (.d t28 a2))], []⟩ (fin3 r)
  unfold F3 at h
  refine Run.regN hX [] 100 [3, 4, 5] [100, 101, 102] ⟨[(3, (.ptr 100 0)), (4, (.ptr 101 0)), (5, (.ptr 102 0))], [(100, (.box (.vcons (.d t23 a0) .vnil))), (101, (.box (.vcons (.d t27 a1) .vnil))), (102, (.box (.vcons (.d t28 a2) .vnil)))]⟩ [] (by kernel_rfl) (by kernel_rfl) trivial ?_
  refine Run.seqN (by kernel_rfl) ?_
  obtain ⟨y1, h_y1, h⟩ := bnd_elim h
  rcases bif_elim h with ⟨hb1, h⟩ | ⟨hb1, h⟩
  · refine Run.regN hX [(0, .call (.d t4 y1)), (2, .b true)] 200 [3, 4, 5, 15] [100, 101, 102] ⟨[(3, (.ptr 100 0)), (4, (.ptr 101 0)), (5, (.ptr 102 0)), (15, (.d t4 true))], [(100, (.box (.vcons (.d t23 a0) .vnil))), (101, (.box (.vcons (.d t27 a1) .vnil))), (102, (.box (.vcons (.d t28 a2) .vnil)))]⟩ [CallPure Pg 5 [] (.d t4 y1), (!y1) = true] (by kernel_rfl) (by kernel_rfl) ⟨(c5 h_y1), hb1, trivial⟩ ?_
    refine Run.condN true (by kernel_rfl) (fun hb => ?_) (fun hb => (by cases hb))
    obtain ⟨y3, h_y3, h⟩ := bnd_elim h
    refine Run.regN hX [(0, .call (.d t4 y3))] 300 [6] [] ⟨[(6, (.d t4 y3))], []⟩ [CallPure Pg 5 [] (.d t4 y3)] (by kernel_rfl) (by kernel_rfl) ⟨(c5 h_y3), trivial⟩ ?_
    refine Run.retN (by kernel_rfl) ?_
    replace h := Option.some.inj h
    subst h
    exact ⟨[(.d t4 y3)], by kernel_rfl, by kernel_rfl⟩
  · obtain ⟨y2, h_y2, h⟩ := bnd_elim h
    refine Run.regN hX [(0, .call (.d t4 y1)), (2, .b false), (4, .call (.d t4 y2))] 200 [3, 4, 5, 15] [100, 101, 102] ⟨[(3, (.ptr 100 0)), (4, (.ptr 101 0)), (5, (.ptr 102 0)), (15, (.d t4 (!y2)))], [(100, (.box (.vcons (.d t23 a0) .vnil))), (101, (.box (.vcons (.d t27 a1) .vnil))), (102, (.box (.vcons (.d t28 a2) .vnil)))]⟩ [CallPure Pg 5 [] (.d t4 y1), (!y1) = false, CallPure Pg 6 [(.d t23 a0), (.d t57 ([] : List Int))] (.d t4 y2)] (by kernel_rfl) (by kernel_rfl) ⟨(c5 h_y1), hb1, (c6 h_y2), trivial⟩ ?_
    refine Run.condN (!y2) (by kernel_rfl) (fun hb => ?_) (fun hb => ?_)
    · replace h := bif_t h hb
      obtain ⟨y4, h_y4, h⟩ := bnd_elim h
      refine Run.regN hX [(0, .call (.d t4 y4))] 300 [6] [] ⟨[(6, (.d t4 y4))], []⟩ [CallPure Pg 5 [] (.d t4 y4)] (by kernel_rfl) (by kernel_rfl) ⟨(c5 h_y4), trivial⟩ ?_
      refine Run.retN (by kernel_rfl) ?_
      replace h := Option.some.inj h
      subst h
      exact ⟨[(.d t4 y4)], by kernel_rfl, by kernel_rfl⟩
    · replace h := bif_f h hb
      refine Run.skipN (by kernel_rfl) ?_
      show Run Pg 59 _ _ _
      obtain ⟨y5, h_y5, h⟩ := bnd_elim h
      refine Run.regN hX [(9, .call (.tup (.vcons (.d t31 y5.1) (.vcons (.d t2 y5.2) .vnil))))] 400 [3, 4, 5, 7, 8] [100, 101, 102] ⟨[(3, (.ptr 100 0)), (4, (.ptr 101 0)), (5, (.ptr 102 0)), (7, (.d t31 y5.1)), (8, (.d t2 y5.2))], [(100, (.box (.vcons (.d t23 a0) .vnil))), (101, (.box (.vcons (.d t27 a1) .vnil))), (102, (.box (.vcons (.d t28 a2) .vnil)))]⟩ [(0 ≤ (0 : Int)), (0 ≤ (1 : Int)), (0 ≤ (0 : Int)), (0 ≤ (1 : Int)), CallPure Pg 7 [(.d t23 a0), (.d t25 a1.1), (.d t25 a1.2), (.d t2 a2.1), (.d t2 a2.2)] (.tup (.vcons (.d t31 y5.1) (.vcons (.d t2 y5.2) .vnil)))] (by kernel_rfl) (by kernel_rfl) ⟨(by decide), (by decide), (by decide), (by decide), (c7 h_y5), trivial⟩ ?_
      refine Run.seqN (by kernel_rfl) ?_
      refine Run.regN hX [] 500 [3, 4, 5, 7, 31] [100, 101, 102] ⟨[(3, (.ptr 100 0)), (4, (.ptr 101 0)), (5, (.ptr 102 0)), (7, (.d t31 y5.1)), (31, (.d t4 (y5.2 != (0 : Int))))], [(100, (.box (.vcons (.d t23 a0) .vnil))), (101, (.box (.vcons (.d t27 a1) .vnil))), (102, (.box (.vcons (.d t28 a2) .vnil)))]⟩ [] (by kernel_rfl) (by kernel_rfl) trivial ?_
      refine Run.condN (y5.2 != (0 : Int)) (by kernel_rfl) (fun hb => ?_) (fun hb => ?_)
      · replace h := bif_t h hb
        refine Run.regN hX [] 600 [6] [] ⟨[(6, (.d t4 ((ofN (List.length y5.1)) == (0 : Int))))], []⟩ [] (by kernel_rfl) (by kernel_rfl) trivial ?_
        refine Run.retN (by kernel_rfl) ?_
        replace h := Option.some.inj h
        subst h
        exact ⟨[(.d t4 ((ofN (List.length y5.1)) == (0 : Int)))], by kernel_rfl, by kernel_rfl⟩
      · replace h := bif_f h hb
        refine Run.skipN (by kernel_rfl) ?_
        show Run Pg 59 _ _ _
        obtain ⟨y6, h_y6, h⟩ := bnd_elim h
        obtain ⟨y7, h_y7, h⟩ := bnd_elim h
        obtain ⟨y8, h_y8, h⟩ := bnd_elim h
        obtain ⟨y9, h_y9, h⟩ := bnd_elim h
        refine Run.regN hX [(12, .call (.d t28 y6)), (19, .call (.d t28 y7)), (22, .call (.d t2 y8)), (23, .call (.d t4 y9))] 700 [6] [] ⟨[(6, (.d t4 y9))], []⟩ [(0 ≤ (0 : Int)), (0 ≤ (1 : Int)), (0 ≤ (0 : Int)), (0 ≤ (0 : Int)), CallPure Pg 10 [(.d t2 a1.1.1), (.d t2 a1.1.2.1)] (.d t28 y6), (0 ≤ (1 : Int)), (0 ≤ (1 : Int)), CallPure Pg 10 [(.d t2 a1.2.1), (.d t2 a1.2.2.1)] (.d t28 y7), (0 ≤ (0 : Int)), CallPure Pg 9 [(.d t23 a0), (.d t28 y6), (.d t28 y7), (.d t2 a2.1)] (.d t2 y8), CallPure Pg 8 [(.d t25 a1.1), (.d t25 a1.2), (.d t31 y5.1), (.d t2 y8)] (.d t4 y9)] (by kernel_rfl) (by kernel_rfl) ⟨(by decide), (by decide), (by decide), (by decide), (c10 h_y6), (by decide), (by decide), (c10 h_y7), (by decide), (c9 h_y8), (c8 h_y9), trivial⟩ ?_
        refine Run.retN (by kernel_rfl) ?_
        replace h := Option.some.inj h
        subst h
        exact ⟨[(.d t4 y9)], by kernel_rfl, by kernel_rfl⟩


end Go.Sw
