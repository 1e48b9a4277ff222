/- Each function of the code computes the Lean function of the same number wherever that has a value; no other conditions. -/
import Derived.Test.YtcmbahhinnojaaaGb
namespace Go.Sw
open Go Go.Sw
set_option linter.unusedSimpArgs false
set_option linter.unusedVariables false

/-! ## f23 -/

noncomputable def c_23 : Code := body0 Go.Proofs.Try.f23

def fin23 (r : Int) : Ex → St → Prop := endK X0 [.tmp 2] [32] (.d t2 r)

def f23_l0_post (x5 : List (Int × Int × Int × Int × Int)) (x6 : Int) (x8 : Int × Int × Int × Int × Int × Int × (List (Int × Int × Int × Int × Int)) × Int) : ((Unit) ⊕ (Int)) → Ex → St → Prop
  | .inl o, x, s => x = .out 0 ∧ s = ⟨[], []⟩
  | .inr o, x, s => x = .ret ∧ fin23  o x s

def f23_l0_b (x5 : List (Int × Int × Int × Int × Int)) (x6 : Int) (x8 : Int × Int × Int × Int × Int × Int × (List (Int × Int × Int × Int × Int)) × Int) (again : Int → Option ((Unit) ⊕ (Int))) : Int → Option ((Unit) ⊕ (Int))
  | x7 =>
    (bif (decide (x7 < x6)) then
      gd (0 ≤ x7) <|
      gd (x7 < ((List.length x5 : Nat) : Int)) <|
      (F49 (List.getD x5 (toN x7) ((0 : Int), (0 : Int), (0 : Int), (0 : Int), (0 : Int))).1 (List.getD x5 (toN x7) ((0 : Int), (0 : Int), (0 : Int), (0 : Int), (0 : Int))).2.1 (List.getD x5 (toN x7) ((0 : Int), (0 : Int), (0 : Int), (0 : Int), (0 : Int))).2.2.1 (List.getD x5 (toN x7) ((0 : Int), (0 : Int), (0 : Int), (0 : Int), (0 : Int))).2.2.2.1).bind fun y12 =>
      (bif (!y12) then
        some (.inr (1 : Int))
      else
        (F51 x8).bind fun y13 =>
        (F50 (List.getD x5 (toN x7) ((0 : Int), (0 : Int), (0 : Int), (0 : Int), (0 : Int))).2.2.2.2 (max2i y13 (-10000000 : Int))).bind fun y14 =>
        (bif (!y14) then
          some (.inr (1 : Int))
        else
          (bif (decide (x8.2.2.2.2.2.2.2 ≤ (List.getD x5 (toN x7) ((0 : Int), (0 : Int), (0 : Int), (0 : Int), (0 : Int))).2.2.2.2)) then
            some (.inr (1 : Int))
          else
            again (wrapI .i64 (x7 + (1 : Int))))))
    else
      some (.inl ()))

def f23_l0 (x5 : List (Int × Int × Int × Int × Int)) (x6 : Int) (x8 : Int × Int × Int × Int × Int × Int × (List (Int × Int × Int × Int × Int)) × Int) : Nat → Int → Option ((Unit) ⊕ (Int)) := loopF (f23_l0_b x5 x6 x8)

theorem f23_l0_ok (x5 : List (Int × Int × Int × Int × Int)) (x6 : Int) (x8 : Int × Int × Int × Int × Int × Int × (List (Int × Int × Int × Int × Int)) × Int) (k : Nat) (x7 : Int) {out : ((Unit) ⊕ (Int))} (h : f23_l0 x5 x6 x8 k x7 = some out) : Run Pg 73 (bk1 (sq2 (sq1 (sq2 (sq2 c_23))))) ⟨[(1, (.ptr 100 0)), (40, (.d t22 x5)), (41, (.d t2 x6)), (42, (.d t2 x7))], [(100, (.box (.vcons (.d t23 x8) .vnil)))]⟩ (f23_l0_post x5 x6 x8 out) := by
  refine Run.loopN (by kernel_rfl) (fun m s => ∃ x7, s = ⟨[(1, (.ptr 100 0)), (40, (.d t22 x5)), (41, (.d t2 x6)), (42, (.d t2 x7))], [(100, (.box (.vcons (.d t23 x8) .vnil)))]⟩ ∧ f23_l0 x5 x6 x8 m x7 = some out) ?_ k ⟨x7,  rfl, h⟩
  rintro m s ⟨x7,  rfl, h⟩
  cases m with
  | zero => cases h
  | succ m =>
  replace h : f23_l0_b x5 x6 x8 (f23_l0 x5 x6 x8 m) x7 = some out := h
  unfold f23_l0_b at h
  refine Run.regN hX [] 500 [1, 40, 41, 42, 43] [100] ⟨[(1, (.ptr 100 0)), (40, (.d t22 x5)), (41, (.d t2 x6)), (42, (.d t2 x7)), (43, (.d t4 (decide (x7 < x6))))], [(100, (.box (.vcons (.d t23 x8) .vnil)))]⟩ [] (by kernel_rfl) (by kernel_rfl) trivial ?_
  refine Run.seqN (by kernel_rfl) ?_
  refine Run.condN (decide (x7 < x6)) (by kernel_rfl) (fun hb => ?_) (fun hb => ?_)
  · replace h := bif_t h hb
    refine Run.skipN (by kernel_rfl) ?_
    show Run Pg 73 _ _ _
    refine Run.seqN (by kernel_rfl) ?_
    refine Run.blockN 1 (by kernel_rfl) ?_
    obtain ⟨g_0, h⟩ := gd_elim h
    obtain ⟨g_1, h⟩ := gd_elim h
    refine Run.regN hX [] 600 [1, 4, 40, 41, 42] [100, 602] ⟨[(1, (.ptr 100 0)), (4, (.ptr 602 0)), (40, (.d t22 x5)), (41, (.d t2 x6)), (42, (.d t2 x7))], [(100, (.box (.vcons (.d t23 x8) .vnil))), (602, (.box (.vcons (.d t55 (List.getD x5 (toN x7) ((0 : Int), (0 : Int), (0 : Int), (0 : Int), (0 : Int)))) .vnil)))]⟩ [(0 ≤ x7), (x7 < ((List.length x5 : Nat) : Int))] (by kernel_rfl) (by kernel_rfl) ⟨g_0, g_1, trivial⟩ ?_
    obtain ⟨y12, h_y12, h⟩ := bnd_elim h
    rcases bif_elim h with ⟨hb1, h⟩ | ⟨hb1, h⟩
    · refine Run.regN hX [(8, .call (.d t4 y12)), (10, .b true)] 700 [1, 40, 41, 42, 71] [100] ⟨[(1, (.ptr 100 0)), (40, (.d t22 x5)), (41, (.d t2 x6)), (42, (.d t2 x7)), (71, (.d t4 true))], [(100, (.box (.vcons (.d t23 x8) .vnil)))]⟩ [CallPure Pg 49 [(.d t2 (List.getD x5 (toN x7) ((0 : Int), (0 : Int), (0 : Int), (0 : Int), (0 : Int))).1), (.d t2 (List.getD x5 (toN x7) ((0 : Int), (0 : Int), (0 : Int), (0 : Int), (0 : Int))).2.1), (.d t2 (List.getD x5 (toN x7) ((0 : Int), (0 : Int), (0 : Int), (0 : Int), (0 : Int))).2.2.1), (.d t2 (List.getD x5 (toN x7) ((0 : Int), (0 : Int), (0 : Int), (0 : Int), (0 : Int))).2.2.2.1)] (.d t4 y12), (!y12) = true] (by kernel_rfl) (by kernel_rfl) ⟨(c49 h_y12), hb1, trivial⟩ ?_
      refine Run.condN true (by kernel_rfl) (fun hb => ?_) (fun hb => (by cases hb))
      refine Run.regN hX [] 800 [2] [] ⟨[(2, (.d t2 (1 : Int)))], []⟩ [] (by kernel_rfl) (by kernel_rfl) trivial ?_
      refine Run.retN (by kernel_rfl) ?_
      replace h := Option.some.inj h
      subst h
      exact ⟨rfl, [(.d t2 (1 : Int))], by kernel_rfl, by kernel_rfl⟩
    · obtain ⟨y13, h_y13, h⟩ := bnd_elim h
      obtain ⟨y14, h_y14, h⟩ := bnd_elim h
      rcases bif_elim h with ⟨hb4, h⟩ | ⟨hb4, h⟩
      · refine Run.regN hX [(8, .call (.d t4 y12)), (10, .b false), (14, .call (.d t2 y13)), (16, .call (.d t4 y14)), (19, .b true)] 700 [1, 40, 41, 42, 71] [100] ⟨[(1, (.ptr 100 0)), (40, (.d t22 x5)), (41, (.d t2 x6)), (42, (.d t2 x7)), (71, (.d t4 true))], [(100, (.box (.vcons (.d t23 x8) .vnil)))]⟩ [CallPure Pg 49 [(.d t2 (List.getD x5 (toN x7) ((0 : Int), (0 : Int), (0 : Int), (0 : Int), (0 : Int))).1), (.d t2 (List.getD x5 (toN x7) ((0 : Int), (0 : Int), (0 : Int), (0 : Int), (0 : Int))).2.1), (.d t2 (List.getD x5 (toN x7) ((0 : Int), (0 : Int), (0 : Int), (0 : Int), (0 : Int))).2.2.1), (.d t2 (List.getD x5 (toN x7) ((0 : Int), (0 : Int), (0 : Int), (0 : Int), (0 : Int))).2.2.2.1)] (.d t4 y12), (!y12) = false, CallPure Pg 51 [(.d t23 x8)] (.d t2 y13), CallPure Pg 50 [(.d t2 (List.getD x5 (toN x7) ((0 : Int), (0 : Int), (0 : Int), (0 : Int), (0 : Int))).2.2.2.2), (.d t2 (max2i y13 (-10000000 : Int)))] (.d t4 y14), (!y14) = true] (by kernel_rfl) (by kernel_rfl) ⟨(c49 h_y12), hb1, (c51 h_y13), (c50 h_y14), hb4, trivial⟩ ?_
        refine Run.condN true (by kernel_rfl) (fun hb => ?_) (fun hb => (by cases hb))
        refine Run.regN hX [] 800 [2] [] ⟨[(2, (.d t2 (1 : Int)))], []⟩ [] (by kernel_rfl) (by kernel_rfl) trivial ?_
        refine Run.retN (by kernel_rfl) ?_
        replace h := Option.some.inj h
        subst h
        exact ⟨rfl, [(.d t2 (1 : Int))], by kernel_rfl, by kernel_rfl⟩
      · refine Run.regN hX [(8, .call (.d t4 y12)), (10, .b false), (14, .call (.d t2 y13)), (16, .call (.d t4 y14)), (19, .b false)] 700 [1, 40, 41, 42, 71] [100] ⟨[(1, (.ptr 100 0)), (40, (.d t22 x5)), (41, (.d t2 x6)), (42, (.d t2 x7)), (71, (.d t4 (decide (x8.2.2.2.2.2.2.2 ≤ (List.getD x5 (toN x7) ((0 : Int), (0 : Int), (0 : Int), (0 : Int), (0 : Int))).2.2.2.2))))], [(100, (.box (.vcons (.d t23 x8) .vnil)))]⟩ [CallPure Pg 49 [(.d t2 (List.getD x5 (toN x7) ((0 : Int), (0 : Int), (0 : Int), (0 : Int), (0 : Int))).1), (.d t2 (List.getD x5 (toN x7) ((0 : Int), (0 : Int), (0 : Int), (0 : Int), (0 : Int))).2.1), (.d t2 (List.getD x5 (toN x7) ((0 : Int), (0 : Int), (0 : Int), (0 : Int), (0 : Int))).2.2.1), (.d t2 (List.getD x5 (toN x7) ((0 : Int), (0 : Int), (0 : Int), (0 : Int), (0 : Int))).2.2.2.1)] (.d t4 y12), (!y12) = false, CallPure Pg 51 [(.d t23 x8)] (.d t2 y13), CallPure Pg 50 [(.d t2 (List.getD x5 (toN x7) ((0 : Int), (0 : Int), (0 : Int), (0 : Int), (0 : Int))).2.2.2.2), (.d t2 (max2i y13 (-10000000 : Int)))] (.d t4 y14), (!y14) = false] (by kernel_rfl) (by kernel_rfl) ⟨(c49 h_y12), hb1, (c51 h_y13), (c50 h_y14), hb4, trivial⟩ ?_
        refine Run.condN (decide (x8.2.2.2.2.2.2.2 ≤ (List.getD x5 (toN x7) ((0 : Int), (0 : Int), (0 : Int), (0 : Int), (0 : Int))).2.2.2.2)) (by kernel_rfl) (fun hb => ?_) (fun hb => ?_)
        · replace h := bif_t h hb
          refine Run.regN hX [] 800 [2] [] ⟨[(2, (.d t2 (1 : Int)))], []⟩ [] (by kernel_rfl) (by kernel_rfl) trivial ?_
          refine Run.retN (by kernel_rfl) ?_
          replace h := Option.some.inj h
          subst h
          exact ⟨rfl, [(.d t2 (1 : Int))], by kernel_rfl, by kernel_rfl⟩
        · replace h := bif_f h hb
          refine Run.skipN (by kernel_rfl) ?_
          show Run Pg 73 _ _ _
          refine Run.regE hX [] 900 [1, 40, 41, 42] [100] ⟨[(1, (.ptr 100 0)), (40, (.d t22 x5)), (41, (.d t2 x6)), (42, (.d t2 (wrapI .i64 (x7 + (1 : Int)))))], [(100, (.box (.vcons (.d t23 x8) .vnil)))]⟩ [] (by kernel_rfl) trivial ?_
          exact ⟨m, Nat.lt_succ_self m, _, rfl, h⟩
  · replace h := bif_f h hb
    refine Run.keep (s' := ⟨[], []⟩) [] [] (by kernel_rfl) ?_
    refine Run.exitN 0 (by kernel_rfl) ?_
    replace h := Option.some.inj h
    subst h
    exact ⟨rfl, by kernel_rfl⟩

def F23 (a0 : Int × Int × Int × Int × Int × Int × (List (Int × Int × Int × Int × Int)) × Int) : Option (Int) :=
  (F49 a0.1 a0.2.1 a0.2.2.1 a0.2.2.2.1).bind fun y1 =>
  (bif (!y1) then
    some (1 : Int)
  else
    (F50 a0.2.2.2.2.1 (1 : Int)).bind fun y2 =>
    (bif (!y2) then
      some (1 : Int)
    else
      (F50 a0.2.2.2.2.2.1 (0 : Int)).bind fun y3 =>
      (bif (!y3) then
        some (1 : Int)
      else
        (F50 a0.2.2.2.2.2.2.2 (1 : Int)).bind fun y4 =>
        (bif (!y4) then
          some (1 : Int)
        else
          (bif (decide ((50 : Int) < (ofN (List.length a0.2.2.2.2.2.2.1)))) then
            some (1 : Int)
          else
            ((f23_l0 a0.2.2.2.2.2.2.1 (ofN (List.length a0.2.2.2.2.2.2.1)) a0 (2 + List.length a0.2.2.2.2.2.2.1) (0 : Int)).bind fun o15 => match o15 with
              | .inl o16 =>
                  some (0 : Int)
              | .inr o17 =>
                  some o17))))))

theorem c23 {a0 : Int × Int × Int × Int × Int × Int × (List (Int × Int × Int × Int × Int)) × Int} {r : Int} (h : F23 a0 = some r) : CallPure Pg 23 [(.d t23 a0)] (.d t2 r) := by
  refine callPureN hX c_23 73 [.tmp 2] [32] Go.Proofs.Try.func23 (by kernel_rfl) (by kernel_rfl) (by kernel_rfl) (Nat.le_of_ble_eq_true rfl) rfl rfl ?_
  show Run Pg 73 c_23 ⟨[(0, (.d t23 a0))], []⟩ (fin23 r)
  unfold F23 at h
  refine Run.regN hX [] 100 [1] [100] ⟨[(1, (.ptr 100 0))], [(100, (.box (.vcons (.d t23 a0) .vnil)))]⟩ [] (by kernel_rfl) (by kernel_rfl) trivial ?_
  refine Run.seqN (by kernel_rfl) ?_
  obtain ⟨y1, h_y1, h⟩ := bnd_elim h
  rcases bif_elim h with ⟨hb1, h⟩ | ⟨hb1, h⟩
  · refine Run.regN hX [(8, .call (.d t4 y1)), (10, .b true)] 200 [1, 38] [100] ⟨[(1, (.ptr 100 0)), (38, (.d t4 true))], [(100, (.box (.vcons (.d t23 a0) .vnil)))]⟩ [CallPure Pg 49 [(.d t2 a0.1), (.d t2 a0.2.1), (.d t2 a0.2.2.1), (.d t2 a0.2.2.2.1)] (.d t4 y1), (!y1) = true] (by kernel_rfl) (by kernel_rfl) ⟨(c49 h_y1), hb1, trivial⟩ ?_
    refine Run.condN true (by kernel_rfl) (fun hb => ?_) (fun hb => (by cases hb))
    refine Run.regN hX [] 300 [2] [] ⟨[(2, (.d t2 (1 : Int)))], []⟩ [] (by kernel_rfl) (by kernel_rfl) trivial ?_
    refine Run.retN (by kernel_rfl) ?_
    replace h := Option.some.inj h
    subst h
    exact ⟨[(.d t2 (1 : Int))], by kernel_rfl, by kernel_rfl⟩
  · obtain ⟨y2, h_y2, h⟩ := bnd_elim h
    rcases bif_elim h with ⟨hb3, h⟩ | ⟨hb3, h⟩
    · refine Run.regN hX [(8, .call (.d t4 y1)), (10, .b false), (13, .call (.d t4 y2)), (16, .b true)] 200 [1, 38] [100] ⟨[(1, (.ptr 100 0)), (38, (.d t4 true))], [(100, (.box (.vcons (.d t23 a0) .vnil)))]⟩ [CallPure Pg 49 [(.d t2 a0.1), (.d t2 a0.2.1), (.d t2 a0.2.2.1), (.d t2 a0.2.2.2.1)] (.d t4 y1), (!y1) = false, CallPure Pg 50 [(.d t2 a0.2.2.2.2.1), (.d t2 (1 : Int))] (.d t4 y2), (!y2) = true] (by kernel_rfl) (by kernel_rfl) ⟨(c49 h_y1), hb1, (c50 h_y2), hb3, trivial⟩ ?_
      refine Run.condN true (by kernel_rfl) (fun hb => ?_) (fun hb => (by cases hb))
      refine Run.regN hX [] 300 [2] [] ⟨[(2, (.d t2 (1 : Int)))], []⟩ [] (by kernel_rfl) (by kernel_rfl) trivial ?_
      refine Run.retN (by kernel_rfl) ?_
      replace h := Option.some.inj h
      subst h
      exact ⟨[(.d t2 (1 : Int))], by kernel_rfl, by kernel_rfl⟩
    · obtain ⟨y3, h_y3, h⟩ := bnd_elim h
      rcases bif_elim h with ⟨hb5, h⟩ | ⟨hb5, h⟩
      · refine Run.regN hX [(8, .call (.d t4 y1)), (10, .b false), (13, .call (.d t4 y2)), (16, .b false), (19, .call (.d t4 y3)), (22, .b true)] 200 [1, 38] [100] ⟨[(1, (.ptr 100 0)), (38, (.d t4 true))], [(100, (.box (.vcons (.d t23 a0) .vnil)))]⟩ [CallPure Pg 49 [(.d t2 a0.1), (.d t2 a0.2.1), (.d t2 a0.2.2.1), (.d t2 a0.2.2.2.1)] (.d t4 y1), (!y1) = false, CallPure Pg 50 [(.d t2 a0.2.2.2.2.1), (.d t2 (1 : Int))] (.d t4 y2), (!y2) = false, CallPure Pg 50 [(.d t2 a0.2.2.2.2.2.1), (.d t2 (0 : Int))] (.d t4 y3), (!y3) = true] (by kernel_rfl) (by kernel_rfl) ⟨(c49 h_y1), hb1, (c50 h_y2), hb3, (c50 h_y3), hb5, trivial⟩ ?_
        refine Run.condN true (by kernel_rfl) (fun hb => ?_) (fun hb => (by cases hb))
        refine Run.regN hX [] 300 [2] [] ⟨[(2, (.d t2 (1 : Int)))], []⟩ [] (by kernel_rfl) (by kernel_rfl) trivial ?_
        refine Run.retN (by kernel_rfl) ?_
        replace h := Option.some.inj h
        subst h
        exact ⟨[(.d t2 (1 : Int))], by kernel_rfl, by kernel_rfl⟩
      · obtain ⟨y4, h_y4, h⟩ := bnd_elim h
        rcases bif_elim h with ⟨hb7, h⟩ | ⟨hb7, h⟩
        · refine Run.regN hX [(8, .call (.d t4 y1)), (10, .b false), (13, .call (.d t4 y2)), (16, .b false), (19, .call (.d t4 y3)), (22, .b false), (25, .call (.d t4 y4)), (28, .b true)] 200 [1, 38] [100] ⟨[(1, (.ptr 100 0)), (38, (.d t4 true))], [(100, (.box (.vcons (.d t23 a0) .vnil)))]⟩ [CallPure Pg 49 [(.d t2 a0.1), (.d t2 a0.2.1), (.d t2 a0.2.2.1), (.d t2 a0.2.2.2.1)] (.d t4 y1), (!y1) = false, CallPure Pg 50 [(.d t2 a0.2.2.2.2.1), (.d t2 (1 : Int))] (.d t4 y2), (!y2) = false, CallPure Pg 50 [(.d t2 a0.2.2.2.2.2.1), (.d t2 (0 : Int))] (.d t4 y3), (!y3) = false, CallPure Pg 50 [(.d t2 a0.2.2.2.2.2.2.2), (.d t2 (1 : Int))] (.d t4 y4), (!y4) = true] (by kernel_rfl) (by kernel_rfl) ⟨(c49 h_y1), hb1, (c50 h_y2), hb3, (c50 h_y3), hb5, (c50 h_y4), hb7, trivial⟩ ?_
          refine Run.condN true (by kernel_rfl) (fun hb => ?_) (fun hb => (by cases hb))
          refine Run.regN hX [] 300 [2] [] ⟨[(2, (.d t2 (1 : Int)))], []⟩ [] (by kernel_rfl) (by kernel_rfl) trivial ?_
          refine Run.retN (by kernel_rfl) ?_
          replace h := Option.some.inj h
          subst h
          exact ⟨[(.d t2 (1 : Int))], by kernel_rfl, by kernel_rfl⟩
        · refine Run.regN hX [(8, .call (.d t4 y1)), (10, .b false), (13, .call (.d t4 y2)), (16, .b false), (19, .call (.d t4 y3)), (22, .b false), (25, .call (.d t4 y4)), (28, .b false)] 200 [1, 38] [100] ⟨[(1, (.ptr 100 0)), (38, (.d t4 (decide ((50 : Int) < (ofN (List.length a0.2.2.2.2.2.2.1))))))], [(100, (.box (.vcons (.d t23 a0) .vnil)))]⟩ [CallPure Pg 49 [(.d t2 a0.1), (.d t2 a0.2.1), (.d t2 a0.2.2.1), (.d t2 a0.2.2.2.1)] (.d t4 y1), (!y1) = false, CallPure Pg 50 [(.d t2 a0.2.2.2.2.1), (.d t2 (1 : Int))] (.d t4 y2), (!y2) = false, CallPure Pg 50 [(.d t2 a0.2.2.2.2.2.1), (.d t2 (0 : Int))] (.d t4 y3), (!y3) = false, CallPure Pg 50 [(.d t2 a0.2.2.2.2.2.2.2), (.d t2 (1 : Int))] (.d t4 y4), (!y4) = false] (by kernel_rfl) (by kernel_rfl) ⟨(c49 h_y1), hb1, (c50 h_y2), hb3, (c50 h_y3), hb5, (c50 h_y4), hb7, trivial⟩ ?_
          refine Run.condN (decide ((50 : Int) < (ofN (List.length a0.2.2.2.2.2.2.1)))) (by kernel_rfl) (fun hb => ?_) (fun hb => ?_)
          · replace h := bif_t h hb
            refine Run.regN hX [] 300 [2] [] ⟨[(2, (.d t2 (1 : Int)))], []⟩ [] (by kernel_rfl) (by kernel_rfl) trivial ?_
            refine Run.retN (by kernel_rfl) ?_
            replace h := Option.some.inj h
            subst h
            exact ⟨[(.d t2 (1 : Int))], by kernel_rfl, by kernel_rfl⟩
          · replace h := bif_f h hb
            refine Run.skipN (by kernel_rfl) ?_
            show Run Pg 73 _ _ _
            refine Run.seqN (by kernel_rfl) ?_
            refine Run.regN hX [] 400 [1, 40, 41, 42] [100] ⟨[(1, (.ptr 100 0)), (40, (.d t22 a0.2.2.2.2.2.2.1)), (41, (.d t2 (ofN (List.length a0.2.2.2.2.2.2.1)))), (42, (.d t2 (0 : Int)))], [(100, (.box (.vcons (.d t23 a0) .vnil)))]⟩ [] (by kernel_rfl) (by kernel_rfl) trivial ?_
            refine Run.blockN 0 (by kernel_rfl) ?_
            obtain ⟨o15, h_o15, h⟩ := bnd_elim h
            refine Run.mono (f23_l0_ok a0.2.2.2.2.2.2.1 (ofN (List.length a0.2.2.2.2.2.2.1)) a0 _ (0 : Int) h_o15) ?_
            rcases o15 with o16 | o17
            · rintro x s ⟨hx, hs⟩
              subst hx
              subst hs
              show Run Pg 73 _ _ _
              refine Run.regN hX [] 1000 [2] [] ⟨[(2, (.d t2 (0 : Int)))], []⟩ [] (by kernel_rfl) (by kernel_rfl) trivial ?_
              refine Run.retN (by kernel_rfl) ?_
              replace h := Option.some.inj h
              subst h
              exact ⟨[(.d t2 (0 : Int))], by kernel_rfl, by kernel_rfl⟩
            · rintro x s ⟨hx, hr⟩
              subst hx
              replace h := Option.some.inj h
              subst h
              exact hr

/-! ## f25 -/

noncomputable def c_25 : Code := body0 Go.Proofs.Try.f25

def fin25 (r : (Int × Int)) : Ex → St → Prop := endK X0 [.cell 2 38] [38] (.d t28 r)

def F25 (a0 : Int × Int × Int) : Option ((Int × Int)) :=
  some (a0.1, a0.2.1)

theorem c25 {a0 : Int × Int × Int} {r : (Int × Int)} (h : F25 a0 = some r) : CallPure Pg 25 [(.d t25 a0)] (.d t28 r) := by
  refine callPureN hX c_25 8 [.cell 2 38] [38] Go.Proofs.Try.func25 (by kernel_rfl) (by kernel_rfl) (by kernel_rfl) (Nat.le_of_ble_eq_true rfl) rfl rfl ?_
  show Run Pg 8 c_25 ⟨[(0, (.d t25 a0))], []⟩ (fin25 r)
  unfold F25 at h
  refine Run.regN hX [] 100 [1, 2] [100, 101] ⟨[(1, (.ptr 100 0)), (2, (.ptr 101 0))], [(100, (.box (.vcons (.d t25 a0) .vnil))), (101, (.box (.vcons (.d t28 ((0 : Int), (0 : Int))) .vnil)))]⟩ [] (by kernel_rfl) (by kernel_rfl) trivial ?_
  refine Run.regN hX [] 200 [2] [101] ⟨[(2, (.ptr 101 0))], [(101, (.box (.vcons (.d t28 (a0.1, a0.2.1)) .vnil)))]⟩ [] (by kernel_rfl) (by kernel_rfl) trivial ?_
  refine Run.retN (by kernel_rfl) ?_
  replace h := Option.some.inj h
  subst h
  exact ⟨[(.d t28 (a0.1, a0.2.1))], by kernel_rfl, by kernel_rfl⟩

/-! ## f52 -/

noncomputable def c_52 : Code := body0 Go.Proofs.Try.f52

def fin52s0 (a2 : Int × Int × Int) (a3 : List (Int × (Int × Int × Int) × (Int × Int) × Int)) (r : (Int × Int × Int) × (List (Int × (Int × Int × Int) × (Int × Int) × Int))) : Ex → St → Prop := endS X0 [] [] (.tup .vnil) [(1000000, (.box (.vcons (.d t25 r.1) (.vcons (.vec 900001 t66) .vnil)))), (900001, (.vec 67 t66 r.2))]

def f52s0_c0_post (x1 : Int) (x2 : Bool) (x3 : Int × Int × Int) (x4 : Int × (Int × Int × Int) × (Int × Int) × Int) (x5 : List (Int × (Int × Int × Int) × (Int × Int) × Int)) (x6 : Int × Int × Int) : ((Int × (Int × Int × Int) × (Int × Int) × Int)) → Ex → St → Prop
  | o, x, s => x = .nrm ∧ s = ⟨[(0, (.ptr 1000000 0)), (4, (.ptr 100 0)), (6, (.ptr 302 0))], [(100, (.box (.vcons (.d t25 x3) .vnil))), (302, (.box (.vcons (.d t66 o) .vnil))), (900001, (.vec 67 t66 x5)), (1000000, (.box (.vcons (.d t25 x6) (.vcons (.vec 900001 t66) .vnil))))]⟩

def f52s0_c0 (x1 : Int) (x2 : Bool) (x4 : Int × (Int × Int × Int) × (Int × Int) × Int) : Option ((Int × (Int × Int × Int) × (Int × Int) × Int)) :=
  (bif x2 then
    some ((2 : Int), x4.2.1, x4.2.2.1, x1)
  else
    some x4)

theorem f52s0_c0_ok (x1 : Int) (x2 : Bool) (x3 : Int × Int × Int) (x4 : Int × (Int × Int × Int) × (Int × Int) × Int) (x5 : List (Int × (Int × Int × Int) × (Int × Int) × Int)) (x6 : Int × Int × Int) {out : ((Int × (Int × Int × Int) × (Int × Int) × Int))} (h : f52s0_c0 x1 x2 x4 = some out) : Run Pg 34 (sq2 (sq1 (sq2 (sq2 (sq2 c_52))))) ⟨[(0, (.ptr 1000000 0)), (2, (.d t2 x1)), (4, (.ptr 100 0)), (6, (.ptr 302 0)), (16, (.d t4 x2))], [(100, (.box (.vcons (.d t25 x3) .vnil))), (302, (.box (.vcons (.d t66 x4) .vnil))), (900001, (.vec 67 t66 x5)), (1000000, (.box (.vcons (.d t25 x6) (.vcons (.vec 900001 t66) .vnil))))]⟩ (f52s0_c0_post x1 x2 x3 x4 x5 x6 out) := by
  unfold f52s0_c0 at h
  refine Run.condN x2 (by kernel_rfl) (fun hb => ?_) (fun hb => ?_)
  · replace h := bif_t h hb
    refine Run.regE hX [] 500 [0, 4, 6] [100, 302, 900001, 1000000] ⟨[(0, (.ptr 1000000 0)), (4, (.ptr 100 0)), (6, (.ptr 302 0))], [(100, (.box (.vcons (.d t25 x3) .vnil))), (302, (.box (.vcons (.d t66 ((2 : Int), x4.2.1, x4.2.2.1, x1)) .vnil))), (900001, (.vec 67 t66 x5)), (1000000, (.box (.vcons (.d t25 x6) (.vcons (.vec 900001 t66) .vnil))))]⟩ [] (by kernel_rfl) trivial ?_
    replace h := Option.some.inj h
    subst h
    exact ⟨rfl, by kernel_rfl⟩
  · replace h := bif_f h hb
    refine Run.keep (s' := ⟨[(0, (.ptr 1000000 0)), (4, (.ptr 100 0)), (6, (.ptr 302 0))], [(100, (.box (.vcons (.d t25 x3) .vnil))), (302, (.box (.vcons (.d t66 x4) .vnil))), (900001, (.vec 67 t66 x5)), (1000000, (.box (.vcons (.d t25 x6) (.vcons (.vec 900001 t66) .vnil))))]⟩) [0, 4, 6] [100, 302, 900001, 1000000] (by kernel_rfl) ?_
    refine Run.skipN (by kernel_rfl) ?_
    replace h := Option.some.inj h
    subst h
    exact ⟨rfl, by kernel_rfl⟩

def F52s0 (a0 : Int × Int × Int) (a1 : Int) (a2 : Int × Int × Int) (a3 : List (Int × (Int × Int × Int) × (Int × Int) × Int)) : Option ((Int × Int × Int) × (List (Int × (Int × Int × Int) × (Int × Int) × Int))) :=
  (bif (eqD t25 a0 a2) then
    some (a2, a3)
  else
    ((f52s0_c0 a1 (decide ((0 : Int) < a1)) ((1 : Int), a0, ((0 : Int), (0 : Int)), (0 : Int))).bind fun o7 =>
      gd (List.length (a3 ++ ([o7] : List (Int × (Int × Int × Int) × (Int × Int) × Int))) ≤ 1073741824) <|
      some (a0, (a3 ++ ([o7] : List (Int × (Int × Int × Int) × (Int × Int) × Int))))))

theorem c52s0 {a0 : Int × Int × Int} {a1 : Int} {a2 : Int × Int × Int} {a3 : List (Int × (Int × Int × Int) × (Int × Int) × Int)} {r : (Int × Int × Int) × (List (Int × (Int × Int × Int) × (Int × Int) × Int))} (h : F52s0 a0 a1 a2 a3 = some r) : CallSt Pg 52 [(.ptr 1000000 0), (.d t25 a0), (.d t2 a1)] [(1000000, (.box (.vcons (.d t25 a2) (.vcons (.vec 900001 t66) .vnil)))), (900001, (.vec 67 t66 a3))] (.tup .vnil) [(1000000, (.box (.vcons (.d t25 r.1) (.vcons (.vec 900001 t66) .vnil)))), (900001, (.vec 67 t66 r.2))] := by
  refine callStN hX c_52 34 [] [] Go.Proofs.Try.func52 (by kernel_rfl) (by kernel_rfl) (by kernel_rfl) (Nat.le_of_ble_eq_true rfl) rfl ?_
  show Run Pg 34 c_52 ⟨[(0, (.ptr 1000000 0)), (1, (.d t25 a0)), (2, (.d t2 a1))], [(1000000, (.box (.vcons (.d t25 a2) (.vcons (.vec 900001 t66) .vnil)))), (900001, (.vec 67 t66 a3))]⟩ (fin52s0 a2 a3 r)
  unfold F52s0 at h
  refine Run.regN hX [] 100 [0, 2, 4] [100, 900001, 1000000] ⟨[(0, (.ptr 1000000 0)), (2, (.d t2 a1)), (4, (.ptr 100 0))], [(100, (.box (.vcons (.d t25 a0) .vnil))), (900001, (.vec 67 t66 a3)), (1000000, (.box (.vcons (.d t25 a2) (.vcons (.vec 900001 t66) .vnil))))]⟩ [] (by kernel_rfl) (by kernel_rfl) trivial ?_
  refine Run.seqN (by kernel_rfl) ?_
  refine Run.regN hX [] 200 [0, 2, 4, 12] [100, 900001, 1000000] ⟨[(0, (.ptr 1000000 0)), (2, (.d t2 a1)), (4, (.ptr 100 0)), (12, (.d t4 (eqD t25 a0 a2)))], [(100, (.box (.vcons (.d t25 a0) .vnil))), (900001, (.vec 67 t66 a3)), (1000000, (.box (.vcons (.d t25 a2) (.vcons (.vec 900001 t66) .vnil))))]⟩ [] (by kernel_rfl) (by kernel_rfl) trivial ?_
  refine Run.condN (eqD t25 a0 a2) (by kernel_rfl) (fun hb => ?_) (fun hb => ?_)
  · replace h := bif_t h hb
    refine Run.retN (by kernel_rfl) ?_
    replace h := Option.some.inj h
    subst h
    exact ⟨[], ⟨[], [(1000000, (.box (.vcons (.d t25 a2) (.vcons (.vec 900001 t66) .vnil)))), (900001, (.vec 67 t66 a3))]⟩, by kernel_rfl, by kernel_rfl, by kernel_rfl, by kernel_rfl⟩
  · replace h := bif_f h hb
    refine Run.skipN (by kernel_rfl) ?_
    show Run Pg 34 _ _ _
    refine Run.regN hX [] 300 [0, 2, 4, 6] [100, 302, 900001, 1000000] ⟨[(0, (.ptr 1000000 0)), (2, (.d t2 a1)), (4, (.ptr 100 0)), (6, (.ptr 302 0))], [(100, (.box (.vcons (.d t25 a0) .vnil))), (302, (.box (.vcons (.d t66 ((1 : Int), a0, ((0 : Int), (0 : Int)), (0 : Int))) .vnil))), (900001, (.vec 67 t66 a3)), (1000000, (.box (.vcons (.d t25 a2) (.vcons (.vec 900001 t66) .vnil))))]⟩ [] (by kernel_rfl) (by kernel_rfl) trivial ?_
    refine Run.seqN (by kernel_rfl) ?_
    refine Run.regN hX [] 400 [0, 2, 4, 6, 16] [100, 302, 900001, 1000000] ⟨[(0, (.ptr 1000000 0)), (2, (.d t2 a1)), (4, (.ptr 100 0)), (6, (.ptr 302 0)), (16, (.d t4 (decide ((0 : Int) < a1))))], [(100, (.box (.vcons (.d t25 a0) .vnil))), (302, (.box (.vcons (.d t66 ((1 : Int), a0, ((0 : Int), (0 : Int)), (0 : Int))) .vnil))), (900001, (.vec 67 t66 a3)), (1000000, (.box (.vcons (.d t25 a2) (.vcons (.vec 900001 t66) .vnil))))]⟩ [] (by kernel_rfl) (by kernel_rfl) trivial ?_
    obtain ⟨o7, h_o7, h⟩ := bnd_elim h
    refine Run.mono (f52s0_c0_ok a1 (decide ((0 : Int) < a1)) a0 ((1 : Int), a0, ((0 : Int), (0 : Int)), (0 : Int)) a3 a2 h_o7) ?_
    rintro x s ⟨hx, hs⟩
    subst hx
    subst hs
    show Run Pg 34 _ _ _
    obtain ⟨g_0, h⟩ := gd_elim h
    refine Run.regE hX [] 600 [] [900001, 1000000] ⟨[], [(900001, (.vec 67 t66 (a3 ++ ([o7] : List (Int × (Int × Int × Int) × (Int × Int) × Int))))), (1000000, (.box (.vcons (.d t25 a0) (.vcons (.vec 900001 t66) .vnil))))]⟩ [(List.length (a3 ++ ([o7] : List (Int × (Int × Int × Int) × (Int × Int) × Int))) ≤ 1073741824)] (by kernel_rfl) ⟨g_0, trivial⟩ ?_
    replace h := Option.some.inj h
    subst h
    exact ⟨[], ⟨[], [(1000000, (.box (.vcons (.d t25 a0) (.vcons (.vec 900001 t66) .vnil)))), (900001, (.vec 67 t66 (a3 ++ ([o7] : List (Int × (Int × Int × Int) × (Int × Int) × Int)))))]⟩, by kernel_rfl, by kernel_rfl, by kernel_rfl, by kernel_rfl⟩

/-! ## f26 -/

noncomputable def c_26 : Code := body0 Go.Proofs.Try.f26

def fin26s0 (a1 : Int × Int × Int) (a2 : List (Int × (Int × Int × Int) × (Int × Int) × Int)) (r : (Int × Int × Int) × (List (Int × (Int × Int × Int) × (Int × Int) × Int))) : Ex → St → Prop := endS X0 [] [] (.tup .vnil) [(1000000, (.box (.vcons (.d t25 r.1) (.vcons (.vec 900001 t66) .vnil)))), (900001, (.vec 67 t66 r.2))]

def F26s0 (a0 : Int) (a1 : Int × Int × Int) (a2 : List (Int × (Int × Int × Int) × (Int × Int) × Int)) : Option ((Int × Int × Int) × (List (Int × (Int × Int × Int) × (Int × Int) × Int))) :=
  (F52s0 (a1.1, a1.2.1, a0) (0 : Int) a1 a2).bind fun y1 =>
  some (y1.1, y1.2)

theorem c26s0 {a0 : Int} {a1 : Int × Int × Int} {a2 : List (Int × (Int × Int × Int) × (Int × Int) × Int)} {r : (Int × Int × Int) × (List (Int × (Int × Int × Int) × (Int × Int) × Int))} (h : F26s0 a0 a1 a2 = some r) : CallSt Pg 26 [(.ptr 1000000 0), (.d t2 a0)] [(1000000, (.box (.vcons (.d t25 a1) (.vcons (.vec 900001 t66) .vnil)))), (900001, (.vec 67 t66 a2))] (.tup .vnil) [(1000000, (.box (.vcons (.d t25 r.1) (.vcons (.vec 900001 t66) .vnil)))), (900001, (.vec 67 t66 r.2))] := by
  refine callStN hX c_26 18 [] [] Go.Proofs.Try.func26 (by kernel_rfl) (by kernel_rfl) (by kernel_rfl) (Nat.le_of_ble_eq_true rfl) rfl ?_
  show Run Pg 18 c_26 ⟨[(0, (.ptr 1000000 0)), (1, (.d t2 a0))], [(1000000, (.box (.vcons (.d t25 a1) (.vcons (.vec 900001 t66) .vnil)))), (900001, (.vec 67 t66 a2))]⟩ (fin26s0 a1 a2 r)
  unfold F26s0 at h
  obtain ⟨y1, h_y1, h⟩ := bnd_elim h
  refine Run.regE hX [(13, .callS [(1000000, (.box (.vcons (.d t25 a1) (.vcons (.vec 900001 t66) .vnil)))), (900001, (.vec 67 t66 a2))] [(.ptr 1000000 0), (.d t25 (a1.1, a1.2.1, a0)), (.d t2 (0 : Int))] [(1000000, 1000000), (900001, 900001)] (.tup .vnil) [(1000000, (.box (.vcons (.d t25 y1.1) (.vcons (.vec 900001 t66) .vnil)))), (900001, (.vec 67 t66 y1.2))])] 100 [] [900001, 1000000] ⟨[], [(900001, (.vec 67 t66 y1.2)), (1000000, (.box (.vcons (.d t25 y1.1) (.vcons (.vec 900001 t66) .vnil))))]⟩ [(([(.ptr 1000000 0), (.d t25 (a1.1, a1.2.1, a0)), (.d t2 (0 : Int))] : List V) = List.map (V.ren (renL [(1000000, 1000000), (900001, 900001)] 113)) [(.ptr 1000000 0), (.d t25 (a1.1, a1.2.1, a0)), (.d t2 (0 : Int))]), CallSt Pg 52 [(.ptr 1000000 0), (.d t25 (a1.1, a1.2.1, a0)), (.d t2 (0 : Int))] [(1000000, (.box (.vcons (.d t25 a1) (.vcons (.vec 900001 t66) .vnil)))), (900001, (.vec 67 t66 a2))] (.tup .vnil) [(1000000, (.box (.vcons (.d t25 y1.1) (.vcons (.vec 900001 t66) .vnil)))), (900001, (.vec 67 t66 y1.2))], ((some (.box (.vcons (.d t25 a1) (.vcons (.vec 900001 t66) .vnil))) : Option E) = some (E.ren (renL [(1000000, 1000000), (900001, 900001)] 113) (.box (.vcons (.d t25 a1) (.vcons (.vec 900001 t66) .vnil))))), ((some (.vec 67 t66 a2) : Option E) = some (E.ren (renL [(1000000, 1000000), (900001, 900001)] 113) (.vec 67 t66 a2)))] (by kernel_rfl) ⟨(by kernel_rfl), (c52s0 h_y1), (by kernel_rfl), (by kernel_rfl), trivial⟩ ?_
  replace h := Option.some.inj h
  subst h
  exact ⟨[], ⟨[], [(1000000, (.box (.vcons (.d t25 y1.1) (.vcons (.vec 900001 t66) .vnil)))), (900001, (.vec 67 t66 y1.2))]⟩, by kernel_rfl, by kernel_rfl, by kernel_rfl, by kernel_rfl⟩

/-! ## f27 -/

noncomputable def c_27 : Code := body0 Go.Proofs.Try.f27

def fin27s0 (a1 : Int × Int × Int) (a2 : List (Int × (Int × Int × Int) × (Int × Int) × Int)) (r : (Int × Int × Int) × (List (Int × (Int × Int × Int) × (Int × Int) × Int))) : Ex → St → Prop := endS X0 [] [] (.tup .vnil) [(1000000, (.box (.vcons (.d t25 r.1) (.vcons (.vec 900001 t66) .vnil)))), (900001, (.vec 67 t66 r.2))]

def F27s0 (a0 : Int × Int) (a1 : Int × Int × Int) (a2 : List (Int × (Int × Int × Int) × (Int × Int) × Int)) : Option ((Int × Int × Int) × (List (Int × (Int × Int × Int) × (Int × Int) × Int))) :=
  (F52s0 (a0.1, a0.2, a1.2.2) (0 : Int) a1 a2).bind fun y1 =>
  some (y1.1, y1.2)

theorem c27s0 {a0 : Int × Int} {a1 : Int × Int × Int} {a2 : List (Int × (Int × Int × Int) × (Int × Int) × Int)} {r : (Int × Int × Int) × (List (Int × (Int × Int × Int) × (Int × Int) × Int))} (h : F27s0 a0 a1 a2 = some r) : CallSt Pg 27 [(.ptr 1000000 0), (.d t28 a0)] [(1000000, (.box (.vcons (.d t25 a1) (.vcons (.vec 900001 t66) .vnil)))), (900001, (.vec 67 t66 a2))] (.tup .vnil) [(1000000, (.box (.vcons (.d t25 r.1) (.vcons (.vec 900001 t66) .vnil)))), (900001, (.vec 67 t66 r.2))] := by
  refine callStN hX c_27 16 [] [] Go.Proofs.Try.func27 (by kernel_rfl) (by kernel_rfl) (by kernel_rfl) (Nat.le_of_ble_eq_true rfl) rfl ?_
  show Run Pg 16 c_27 ⟨[(0, (.ptr 1000000 0)), (1, (.d t28 a0))], [(1000000, (.box (.vcons (.d t25 a1) (.vcons (.vec 900001 t66) .vnil)))), (900001, (.vec 67 t66 a2))]⟩ (fin27s0 a1 a2 r)
  unfold F27s0 at h
  refine Run.regN hX [] 100 [0, 3] [100, 900001, 1000000] ⟨[(0, (.ptr 1000000 0)), (3, (.ptr 100 0))], [(100, (.box (.vcons (.d t28 a0) .vnil))), (900001, (.vec 67 t66 a2)), (1000000, (.box (.vcons (.d t25 a1) (.vcons (.vec 900001 t66) .vnil))))]⟩ [] (by kernel_rfl) (by kernel_rfl) trivial ?_
  obtain ⟨y1, h_y1, h⟩ := bnd_elim h
  refine Run.regE hX [(11, .callS [(1000000, (.box (.vcons (.d t25 a1) (.vcons (.vec 900001 t66) .vnil)))), (900001, (.vec 67 t66 a2))] [(.ptr 1000000 0), (.d t25 (a0.1, a0.2, a1.2.2)), (.d t2 (0 : Int))] [(1000000, 1000000), (900001, 900001)] (.tup .vnil) [(1000000, (.box (.vcons (.d t25 y1.1) (.vcons (.vec 900001 t66) .vnil)))), (900001, (.vec 67 t66 y1.2))])] 200 [] [900001, 1000000] ⟨[], [(900001, (.vec 67 t66 y1.2)), (1000000, (.box (.vcons (.d t25 y1.1) (.vcons (.vec 900001 t66) .vnil))))]⟩ [(([(.ptr 1000000 0), (.d t25 (a0.1, a0.2, a1.2.2)), (.d t2 (0 : Int))] : List V) = List.map (V.ren (renL [(1000000, 1000000), (900001, 900001)] 211)) [(.ptr 1000000 0), (.d t25 (a0.1, a0.2, a1.2.2)), (.d t2 (0 : Int))]), CallSt Pg 52 [(.ptr 1000000 0), (.d t25 (a0.1, a0.2, a1.2.2)), (.d t2 (0 : Int))] [(1000000, (.box (.vcons (.d t25 a1) (.vcons (.vec 900001 t66) .vnil)))), (900001, (.vec 67 t66 a2))] (.tup .vnil) [(1000000, (.box (.vcons (.d t25 y1.1) (.vcons (.vec 900001 t66) .vnil)))), (900001, (.vec 67 t66 y1.2))], ((some (.box (.vcons (.d t25 a1) (.vcons (.vec 900001 t66) .vnil))) : Option E) = some (E.ren (renL [(1000000, 1000000), (900001, 900001)] 211) (.box (.vcons (.d t25 a1) (.vcons (.vec 900001 t66) .vnil))))), ((some (.vec 67 t66 a2) : Option E) = some (E.ren (renL [(1000000, 1000000), (900001, 900001)] 211) (.vec 67 t66 a2)))] (by kernel_rfl) ⟨(by kernel_rfl), (c52s0 h_y1), (by kernel_rfl), (by kernel_rfl), trivial⟩ ?_
  replace h := Option.some.inj h
  subst h
  exact ⟨[], ⟨[], [(1000000, (.box (.vcons (.d t25 y1.1) (.vcons (.vec 900001 t66) .vnil)))), (900001, (.vec 67 t66 y1.2))]⟩, by kernel_rfl, by kernel_rfl, by kernel_rfl, by kernel_rfl⟩

/-! ## f28 -/

noncomputable def c_28 : Code := body0 Go.Proofs.Try.f28

def fin28s0 (a2 : Int × Int × Int) (a3 : List (Int × (Int × Int × Int) × (Int × Int) × Int)) (r : (Int × Int × Int) × (List (Int × (Int × Int × Int) × (Int × Int) × Int))) : Ex → St → Prop := endS X0 [] [] (.tup .vnil) [(1000000, (.box (.vcons (.d t25 r.1) (.vcons (.vec 900001 t66) .vnil)))), (900001, (.vec 67 t66 r.2))]

def f28s0_c0_post (x1 : Int) (x2 : Int) (x3 : Int) (x4 : Bool) (x5 : List (Int × (Int × Int × Int) × (Int × Int) × Int)) (x6 : Int × Int × Int) : ((List (Int × (Int × Int × Int) × (Int × Int) × Int)) × (Int × Int × Int)) → Ex → St → Prop
  | o, x, s => x = .nrm ∧ s = ⟨[(0, (.ptr 1000000 0)), (1, (.d t2 x1)), (2, (.d t2 x2))], [(900001, (.vec 67 t66 o.1)), (1000000, (.box (.vcons (.d t25 o.2) (.vcons (.vec 900001 t66) .vnil))))]⟩

def f28s0_c0 (x3 : Int) (x4 : Bool) (x5 : List (Int × (Int × Int × Int) × (Int × Int) × Int)) (x6 : Int × Int × Int) : Option ((List (Int × (Int × Int × Int) × (Int × Int) × Int)) × (Int × Int × Int)) :=
  (bif x4 then
    (F26s0 x3 x6 x5).bind fun y8 =>
    some (y8.2, y8.1)
  else
    some (x5, x6))

theorem f28s0_c0_ok (x1 : Int) (x2 : Int) (x3 : Int) (x4 : Bool) (x5 : List (Int × (Int × Int × Int) × (Int × Int) × Int)) (x6 : Int × Int × Int) {out : ((List (Int × (Int × Int × Int) × (Int × Int) × Int)) × (Int × Int × Int))} (h : f28s0_c0 x3 x4 x5 x6 = some out) : Run Pg 45 (sq2 (sq2 (sq1 c_28))) ⟨[(0, (.ptr 1000000 0)), (1, (.d t2 x1)), (2, (.d t2 x2)), (6, (.d t2 x3)), (15, (.d t4 x4))], [(900001, (.vec 67 t66 x5)), (1000000, (.box (.vcons (.d t25 x6) (.vcons (.vec 900001 t66) .vnil))))]⟩ (f28s0_c0_post x1 x2 x3 x4 x5 x6 out) := by
  unfold f28s0_c0 at h
  refine Run.condN x4 (by kernel_rfl) (fun hb => ?_) (fun hb => ?_)
  · replace h := bif_t h hb
    obtain ⟨y8, h_y8, h⟩ := bnd_elim h
    refine Run.regE hX [(2, .callS [(1000000, (.box (.vcons (.d t25 x6) (.vcons (.vec 900001 t66) .vnil)))), (900001, (.vec 67 t66 x5))] [(.ptr 1000000 0), (.d t2 x3)] [(1000000, 1000000), (900001, 900001)] (.tup .vnil) [(1000000, (.box (.vcons (.d t25 y8.1) (.vcons (.vec 900001 t66) .vnil)))), (900001, (.vec 67 t66 y8.2))])] 300 [0, 1, 2] [900001, 1000000] ⟨[(0, (.ptr 1000000 0)), (1, (.d t2 x1)), (2, (.d t2 x2))], [(900001, (.vec 67 t66 y8.2)), (1000000, (.box (.vcons (.d t25 y8.1) (.vcons (.vec 900001 t66) .vnil))))]⟩ [(([(.ptr 1000000 0), (.d t2 x3)] : List V) = List.map (V.ren (renL [(1000000, 1000000), (900001, 900001)] 302)) [(.ptr 1000000 0), (.d t2 x3)]), CallSt Pg 26 [(.ptr 1000000 0), (.d t2 x3)] [(1000000, (.box (.vcons (.d t25 x6) (.vcons (.vec 900001 t66) .vnil)))), (900001, (.vec 67 t66 x5))] (.tup .vnil) [(1000000, (.box (.vcons (.d t25 y8.1) (.vcons (.vec 900001 t66) .vnil)))), (900001, (.vec 67 t66 y8.2))], ((some (.box (.vcons (.d t25 x6) (.vcons (.vec 900001 t66) .vnil))) : Option E) = some (E.ren (renL [(1000000, 1000000), (900001, 900001)] 302) (.box (.vcons (.d t25 x6) (.vcons (.vec 900001 t66) .vnil))))), ((some (.vec 67 t66 x5) : Option E) = some (E.ren (renL [(1000000, 1000000), (900001, 900001)] 302) (.vec 67 t66 x5)))] (by kernel_rfl) ⟨(by kernel_rfl), (c26s0 h_y8), (by kernel_rfl), (by kernel_rfl), trivial⟩ ?_
    replace h := Option.some.inj h
    subst h
    exact ⟨rfl, by kernel_rfl⟩
  · replace h := bif_f h hb
    refine Run.keep (s' := ⟨[(0, (.ptr 1000000 0)), (1, (.d t2 x1)), (2, (.d t2 x2))], [(900001, (.vec 67 t66 x5)), (1000000, (.box (.vcons (.d t25 x6) (.vcons (.vec 900001 t66) .vnil))))]⟩) [0, 1, 2] [900001, 1000000] (by kernel_rfl) ?_
    refine Run.skipN (by kernel_rfl) ?_
    replace h := Option.some.inj h
    subst h
    exact ⟨rfl, by kernel_rfl⟩

def f28s0_c1_post (x10 : Int) (x11 : Int) (x12 : Bool) (x13 : List (Int × (Int × Int × Int) × (Int × Int) × Int)) (x14 : Int × Int × Int) : ((List (Int × (Int × Int × Int) × (Int × Int) × Int)) × (Int × Int × Int)) → Ex → St → Prop
  | o, x, s => x = .nrm ∧ s = ⟨[], [(900001, (.vec 67 t66 o.1)), (1000000, (.box (.vcons (.d t25 o.2) (.vcons (.vec 900001 t66) .vnil))))]⟩

def f28s0_c1 (x10 : Int) (x11 : Int) (x12 : Bool) (x13 : List (Int × (Int × Int × Int) × (Int × Int) × Int)) (x14 : Int × Int × Int) : Option ((List (Int × (Int × Int × Int) × (Int × Int) × Int)) × (Int × Int × Int)) :=
  (bif x12 then
    (F52s0 (x14.1, x14.2.1, x10) x11 x14 x13).bind fun y16 =>
    some (y16.2, y16.1)
  else
    some (x13, x14))

theorem f28s0_c1_ok (x10 : Int) (x11 : Int) (x12 : Bool) (x13 : List (Int × (Int × Int × Int) × (Int × Int) × Int)) (x14 : Int × Int × Int) {out : ((List (Int × (Int × Int × Int) × (Int × Int) × Int)) × (Int × Int × Int))} (h : f28s0_c1 x10 x11 x12 x13 x14 = some out) : Run Pg 45 (sq2 (sq2 c_28)) ⟨[(0, (.ptr 1000000 0)), (1, (.d t2 x10)), (2, (.d t2 x11)), (29, (.d t4 x12))], [(900001, (.vec 67 t66 x13)), (1000000, (.box (.vcons (.d t25 x14) (.vcons (.vec 900001 t66) .vnil))))]⟩ (f28s0_c1_post x10 x11 x12 x13 x14 out) := by
  unfold f28s0_c1 at h
  refine Run.condN x12 (by kernel_rfl) (fun hb => ?_) (fun hb => ?_)
  · replace h := bif_t h hb
    obtain ⟨y16, h_y16, h⟩ := bnd_elim h
    refine Run.regE hX [(14, .callS [(1000000, (.box (.vcons (.d t25 x14) (.vcons (.vec 900001 t66) .vnil)))), (900001, (.vec 67 t66 x13))] [(.ptr 1000000 0), (.d t25 (x14.1, x14.2.1, x10)), (.d t2 x11)] [(1000000, 1000000), (900001, 900001)] (.tup .vnil) [(1000000, (.box (.vcons (.d t25 y16.1) (.vcons (.vec 900001 t66) .vnil)))), (900001, (.vec 67 t66 y16.2))])] 500 [] [900001, 1000000] ⟨[], [(900001, (.vec 67 t66 y16.2)), (1000000, (.box (.vcons (.d t25 y16.1) (.vcons (.vec 900001 t66) .vnil))))]⟩ [(([(.ptr 1000000 0), (.d t25 (x14.1, x14.2.1, x10)), (.d t2 x11)] : List V) = List.map (V.ren (renL [(1000000, 1000000), (900001, 900001)] 514)) [(.ptr 1000000 0), (.d t25 (x14.1, x14.2.1, x10)), (.d t2 x11)]), CallSt Pg 52 [(.ptr 1000000 0), (.d t25 (x14.1, x14.2.1, x10)), (.d t2 x11)] [(1000000, (.box (.vcons (.d t25 x14) (.vcons (.vec 900001 t66) .vnil)))), (900001, (.vec 67 t66 x13))] (.tup .vnil) [(1000000, (.box (.vcons (.d t25 y16.1) (.vcons (.vec 900001 t66) .vnil)))), (900001, (.vec 67 t66 y16.2))], ((some (.box (.vcons (.d t25 x14) (.vcons (.vec 900001 t66) .vnil))) : Option E) = some (E.ren (renL [(1000000, 1000000), (900001, 900001)] 514) (.box (.vcons (.d t25 x14) (.vcons (.vec 900001 t66) .vnil))))), ((some (.vec 67 t66 x13) : Option E) = some (E.ren (renL [(1000000, 1000000), (900001, 900001)] 514) (.vec 67 t66 x13)))] (by kernel_rfl) ⟨(by kernel_rfl), (c52s0 h_y16), (by kernel_rfl), (by kernel_rfl), trivial⟩ ?_
    replace h := Option.some.inj h
    subst h
    exact ⟨rfl, by kernel_rfl⟩
  · replace h := bif_f h hb
    refine Run.keep (s' := ⟨[], [(900001, (.vec 67 t66 x13)), (1000000, (.box (.vcons (.d t25 x14) (.vcons (.vec 900001 t66) .vnil))))]⟩) [] [900001, 1000000] (by kernel_rfl) ?_
    refine Run.skipN (by kernel_rfl) ?_
    replace h := Option.some.inj h
    subst h
    exact ⟨rfl, by kernel_rfl⟩

def F28s0 (a0 : Int) (a1 : Int) (a2 : Int × Int × Int) (a3 : List (Int × (Int × Int × Int) × (Int × Int) × Int)) : Option ((Int × Int × Int) × (List (Int × (Int × Int × Int) × (Int × Int) × Int))) :=
  ((f28s0_c0 (max2i (1000 : Int) a0) (decide ((max2i (1000 : Int) a0) < a2.2.2)) a3 a2).bind fun o9 =>
    (bif (decide (a0 < (1000 : Int))) then
      ((f28s0_c1 a0 a1 (decide (a0 < o9.2.2.2)) o9.1 o9.2).bind fun o17 =>
        some (o17.2, o17.1))
    else
      some (o9.2, o9.1)))

theorem c28s0 {a0 : Int} {a1 : Int} {a2 : Int × Int × Int} {a3 : List (Int × (Int × Int × Int) × (Int × Int) × Int)} {r : (Int × Int × Int) × (List (Int × (Int × Int × Int) × (Int × Int) × Int))} (h : F28s0 a0 a1 a2 a3 = some r) : CallSt Pg 28 [(.ptr 1000000 0), (.d t2 a0), (.d t2 a1)] [(1000000, (.box (.vcons (.d t25 a2) (.vcons (.vec 900001 t66) .vnil)))), (900001, (.vec 67 t66 a3))] (.tup .vnil) [(1000000, (.box (.vcons (.d t25 r.1) (.vcons (.vec 900001 t66) .vnil)))), (900001, (.vec 67 t66 r.2))] := by
  refine callStN hX c_28 45 [] [] Go.Proofs.Try.func28 (by kernel_rfl) (by kernel_rfl) (by kernel_rfl) (Nat.le_of_ble_eq_true rfl) rfl ?_
  show Run Pg 45 c_28 ⟨[(0, (.ptr 1000000 0)), (1, (.d t2 a0)), (2, (.d t2 a1))], [(1000000, (.box (.vcons (.d t25 a2) (.vcons (.vec 900001 t66) .vnil)))), (900001, (.vec 67 t66 a3))]⟩ (fin28s0 a2 a3 r)
  unfold F28s0 at h
  refine Run.seqN (by kernel_rfl) ?_
  refine Run.regN hX [] 100 [0, 1, 2, 6] [900001, 1000000] ⟨[(0, (.ptr 1000000 0)), (1, (.d t2 a0)), (2, (.d t2 a1)), (6, (.d t2 (max2i (1000 : Int) a0)))], [(900001, (.vec 67 t66 a3)), (1000000, (.box (.vcons (.d t25 a2) (.vcons (.vec 900001 t66) .vnil))))]⟩ [] (by kernel_rfl) (by kernel_rfl) trivial ?_
  refine Run.regN hX [] 200 [0, 1, 2, 6, 15] [900001, 1000000] ⟨[(0, (.ptr 1000000 0)), (1, (.d t2 a0)), (2, (.d t2 a1)), (6, (.d t2 (max2i (1000 : Int) a0))), (15, (.d t4 (decide ((max2i (1000 : Int) a0) < a2.2.2))))], [(900001, (.vec 67 t66 a3)), (1000000, (.box (.vcons (.d t25 a2) (.vcons (.vec 900001 t66) .vnil))))]⟩ [] (by kernel_rfl) (by kernel_rfl) trivial ?_
  obtain ⟨o9, h_o9, h⟩ := bnd_elim h
  refine Run.mono (f28s0_c0_ok a0 a1 (max2i (1000 : Int) a0) (decide ((max2i (1000 : Int) a0) < a2.2.2)) a3 a2 h_o9) ?_
  rintro x s ⟨hx, hs⟩
  subst hx
  subst hs
  show Run Pg 45 _ _ _
  rcases bif_elim h with ⟨hb0, h⟩ | ⟨hb0, h⟩
  · refine Run.regN hX [(2, .b true)] 400 [0, 1, 2, 29] [900001, 1000000] ⟨[(0, (.ptr 1000000 0)), (1, (.d t2 a0)), (2, (.d t2 a1)), (29, (.d t4 (decide (a0 < o9.2.2.2))))], [(900001, (.vec 67 t66 o9.1)), (1000000, (.box (.vcons (.d t25 o9.2) (.vcons (.vec 900001 t66) .vnil))))]⟩ [(decide (a0 < (1000 : Int))) = true] (by kernel_rfl) (by kernel_rfl) ⟨hb0, trivial⟩ ?_
    obtain ⟨o17, h_o17, h⟩ := bnd_elim h
    refine Run.mono (f28s0_c1_ok a0 a1 (decide (a0 < o9.2.2.2)) o9.1 o9.2 h_o17) ?_
    rintro x s ⟨hx, hs⟩
    subst hx
    subst hs
    replace h := Option.some.inj h
    subst h
    exact ⟨[], ⟨[], [(1000000, (.box (.vcons (.d t25 o17.2) (.vcons (.vec 900001 t66) .vnil)))), (900001, (.vec 67 t66 o17.1))]⟩, by kernel_rfl, by kernel_rfl, by kernel_rfl, by kernel_rfl⟩
  · refine Run.regN hX [(2, .b false)] 400 [0, 1, 2, 29] [900001, 1000000] ⟨[(0, (.ptr 1000000 0)), (1, (.d t2 a0)), (2, (.d t2 a1)), (29, (.d t4 false))], [(900001, (.vec 67 t66 o9.1)), (1000000, (.box (.vcons (.d t25 o9.2) (.vcons (.vec 900001 t66) .vnil))))]⟩ [(decide (a0 < (1000 : Int))) = false] (by kernel_rfl) (by kernel_rfl) ⟨hb0, trivial⟩ ?_
    refine Run.condN false (by kernel_rfl) (fun hb => (by cases hb)) (fun hb => ?_)
    refine Run.skipN (by kernel_rfl) ?_
    replace h := Option.some.inj h
    subst h
    exact ⟨[], ⟨[], [(1000000, (.box (.vcons (.d t25 o9.2) (.vcons (.vec 900001 t66) .vnil)))), (900001, (.vec 67 t66 o9.1))]⟩, by kernel_rfl, by kernel_rfl, by kernel_rfl, by kernel_rfl⟩

/-! ## f12 -/

noncomputable def c_12 : Code := body0 Go.Proofs.Try.f12

def fin12 (r : (List (Int × (Int × Int × Int) × (Int × Int) × Int)) × Int) : Ex → St → Prop := endK X0 [.tmp 12, .tmp 13] [31, 32] (.tup (.vcons (.d t31 r.1) (.vcons (.d t2 r.2) .vnil)))

def f12_l0_post (x9 : Int) (x10 : List (Int × Int)) (x11 : Int) (x13 : Int × Int × Int) : ((Int × Int × Int) × (List (Int × (Int × Int × Int) × (Int × Int) × Int))) → Ex → St → Prop
  | o, x, s => x = .out 0 ∧ s = ⟨[(5, (.d t2 x9)), (8, (.ptr 102 0)), (17, (.ptr 1402 0))], [(102, (.box (.vcons (.d t25 x13) .vnil))), (1402, (.box (.vcons (.d t25 o.1) (.vcons (.vec 90903 t66) .vnil)))), (90903, (.vec 67 t66 o.2))]⟩

def f12_l0_b (x10 : List (Int × Int)) (x11 : Int) (again : Int × (Int × Int × Int) × (List (Int × (Int × Int × Int) × (Int × Int) × Int)) → Option ((Int × Int × Int) × (List (Int × (Int × Int × Int) × (Int × Int) × Int)))) : Int × (Int × Int × Int) × (List (Int × (Int × Int × Int) × (Int × Int) × Int)) → Option ((Int × Int × Int) × (List (Int × (Int × Int × Int) × (Int × Int) × Int)))
  | (x12, x14, x15) =>
    (bif (decide (x12 < x11)) then
      gd (0 ≤ x12) <|
      gd (x12 < ((List.length x10 : Nat) : Int)) <|
      (F27s0 (List.getD x10 (toN x12) ((0 : Int), (0 : Int))) x14 x15).bind fun y17 =>
      again ((wrapI .i64 (x12 + (1 : Int))), y17.1, y17.2)
    else
      some (x14, x15))

def f12_l0 (x10 : List (Int × Int)) (x11 : Int) : Nat → Int × (Int × Int × Int) × (List (Int × (Int × Int × Int) × (Int × Int) × Int)) → Option ((Int × Int × Int) × (List (Int × (Int × Int × Int) × (Int × Int) × Int))) := loopF (f12_l0_b x10 x11)

theorem f12_l0_ok (x9 : Int) (x10 : List (Int × Int)) (x11 : Int) (x13 : Int × Int × Int) (k : Nat) (x12 : Int) (x14 : Int × Int × Int) (x15 : List (Int × (Int × Int × Int) × (Int × Int) × Int)) {out : ((Int × Int × Int) × (List (Int × (Int × Int × Int) × (Int × Int) × Int)))} (h : f12_l0 x10 x11 k (x12, x14, x15) = some out) : Run Pg 102 (bk1 (sq2 (sq1 (sq2 (sq2 (sq2 (sq2 (sq2 (sq2 (sq2 (sq2 (sq2 c_12)))))))))))) ⟨[(5, (.d t2 x9)), (8, (.ptr 102 0)), (17, (.ptr 1402 0)), (87, (.d t45 x10)), (88, (.d t2 x11)), (89, (.d t2 x12))], [(102, (.box (.vcons (.d t25 x13) .vnil))), (1402, (.box (.vcons (.d t25 x14) (.vcons (.vec 90903 t66) .vnil)))), (90903, (.vec 67 t66 x15))]⟩ (f12_l0_post x9 x10 x11 x13 out) := by
  refine Run.loopN (by kernel_rfl) (fun m s => ∃ x12 x14 x15, s = ⟨[(5, (.d t2 x9)), (8, (.ptr 102 0)), (17, (.ptr 1402 0)), (87, (.d t45 x10)), (88, (.d t2 x11)), (89, (.d t2 x12))], [(102, (.box (.vcons (.d t25 x13) .vnil))), (1402, (.box (.vcons (.d t25 x14) (.vcons (.vec 90903 t66) .vnil)))), (90903, (.vec 67 t66 x15))]⟩ ∧ f12_l0 x10 x11 m (x12, x14, x15) = some out) ?_ k ⟨x12, x14, x15,  rfl, h⟩
  rintro m s ⟨x12, x14, x15,  rfl, h⟩
  cases m with
  | zero => cases h
  | succ m =>
  replace h : f12_l0_b x10 x11 (f12_l0 x10 x11 m) (x12, x14, x15) = some out := h
  unfold f12_l0_b at h
  refine Run.regN hX [] 1700 [5, 8, 17, 87, 88, 89, 90] [102, 1402, 90903] ⟨[(5, (.d t2 x9)), (8, (.ptr 102 0)), (17, (.ptr 1402 0)), (87, (.d t45 x10)), (88, (.d t2 x11)), (89, (.d t2 x12)), (90, (.d t4 (decide (x12 < x11))))], [(102, (.box (.vcons (.d t25 x13) .vnil))), (1402, (.box (.vcons (.d t25 x14) (.vcons (.vec 90903 t66) .vnil)))), (90903, (.vec 67 t66 x15))]⟩ [] (by kernel_rfl) (by kernel_rfl) trivial ?_
  refine Run.seqN (by kernel_rfl) ?_
  refine Run.condN (decide (x12 < x11)) (by kernel_rfl) (fun hb => ?_) (fun hb => ?_)
  · replace h := bif_t h hb
    refine Run.skipN (by kernel_rfl) ?_
    show Run Pg 102 _ _ _
    refine Run.seqN (by kernel_rfl) ?_
    refine Run.blockN 1 (by kernel_rfl) ?_
    obtain ⟨g_0, h⟩ := gd_elim h
    obtain ⟨g_1, h⟩ := gd_elim h
    refine Run.regN hX [] 1800 [5, 8, 17, 19, 87, 88, 89] [102, 1402, 1802, 90903] ⟨[(5, (.d t2 x9)), (8, (.ptr 102 0)), (17, (.ptr 1402 0)), (19, (.ptr 1802 0)), (87, (.d t45 x10)), (88, (.d t2 x11)), (89, (.d t2 x12))], [(102, (.box (.vcons (.d t25 x13) .vnil))), (1402, (.box (.vcons (.d t25 x14) (.vcons (.vec 90903 t66) .vnil)))), (1802, (.box (.vcons (.d t28 (List.getD x10 (toN x12) ((0 : Int), (0 : Int)))) .vnil))), (90903, (.vec 67 t66 x15))]⟩ [(0 ≤ x12), (x12 < ((List.length x10 : Nat) : Int))] (by kernel_rfl) (by kernel_rfl) ⟨g_0, g_1, trivial⟩ ?_
    obtain ⟨y17, h_y17, h⟩ := bnd_elim h
    refine Run.regE hX [(1, .callS [(1000000, (.box (.vcons (.d t25 x14) (.vcons (.vec 900001 t66) .vnil)))), (900001, (.vec 67 t66 x15))] [(.ptr 1000000 0), (.d t28 (List.getD x10 (toN x12) ((0 : Int), (0 : Int))))] [(1000000, 1402), (900001, 90903)] (.tup .vnil) [(1000000, (.box (.vcons (.d t25 y17.1) (.vcons (.vec 900001 t66) .vnil)))), (900001, (.vec 67 t66 y17.2))])] 1900 [5, 8, 17, 87, 88, 89] [102, 1402, 90903] ⟨[(5, (.d t2 x9)), (8, (.ptr 102 0)), (17, (.ptr 1402 0)), (87, (.d t45 x10)), (88, (.d t2 x11)), (89, (.d t2 x12))], [(102, (.box (.vcons (.d t25 x13) .vnil))), (1402, (.box (.vcons (.d t25 y17.1) (.vcons (.vec 90903 t66) .vnil)))), (90903, (.vec 67 t66 y17.2))]⟩ [(([(.ptr 1402 0), (.d t28 (List.getD x10 (toN x12) ((0 : Int), (0 : Int))))] : List V) = List.map (V.ren (renL [(1000000, 1402), (900001, 90903)] 1901)) [(.ptr 1000000 0), (.d t28 (List.getD x10 (toN x12) ((0 : Int), (0 : Int))))]), CallSt Pg 27 [(.ptr 1000000 0), (.d t28 (List.getD x10 (toN x12) ((0 : Int), (0 : Int))))] [(1000000, (.box (.vcons (.d t25 x14) (.vcons (.vec 900001 t66) .vnil)))), (900001, (.vec 67 t66 x15))] (.tup .vnil) [(1000000, (.box (.vcons (.d t25 y17.1) (.vcons (.vec 900001 t66) .vnil)))), (900001, (.vec 67 t66 y17.2))], ((some (.box (.vcons (.d t25 x14) (.vcons (.vec 90903 t66) .vnil))) : Option E) = some (E.ren (renL [(1000000, 1402), (900001, 90903)] 1901) (.box (.vcons (.d t25 x14) (.vcons (.vec 900001 t66) .vnil))))), ((some (.vec 67 t66 x15) : Option E) = some (E.ren (renL [(1000000, 1402), (900001, 90903)] 1901) (.vec 67 t66 x15)))] (by kernel_rfl) ⟨(by kernel_rfl), (c27s0 h_y17), (by kernel_rfl), (by kernel_rfl), trivial⟩ ?_
    show Run Pg 102 _ _ _
    refine Run.regE hX [] 2000 [5, 8, 17, 87, 88, 89] [102, 1402, 90903] ⟨[(5, (.d t2 x9)), (8, (.ptr 102 0)), (17, (.ptr 1402 0)), (87, (.d t45 x10)), (88, (.d t2 x11)), (89, (.d t2 (wrapI .i64 (x12 + (1 : Int)))))], [(102, (.box (.vcons (.d t25 x13) .vnil))), (1402, (.box (.vcons (.d t25 y17.1) (.vcons (.vec 90903 t66) .vnil)))), (90903, (.vec 67 t66 y17.2))]⟩ [] (by kernel_rfl) trivial ?_
    exact ⟨m, Nat.lt_succ_self m, _, _, _, rfl, h⟩
  · replace h := bif_f h hb
    refine Run.keep (s' := ⟨[(5, (.d t2 x9)), (8, (.ptr 102 0)), (17, (.ptr 1402 0))], [(102, (.box (.vcons (.d t25 x13) .vnil))), (1402, (.box (.vcons (.d t25 x14) (.vcons (.vec 90903 t66) .vnil)))), (90903, (.vec 67 t66 x15))]⟩) [5, 8, 17] [102, 1402, 90903] (by kernel_rfl) ?_
    refine Run.exitN 0 (by kernel_rfl) ?_
    replace h := Option.some.inj h
    subst h
    exact ⟨rfl, by kernel_rfl⟩

def F12 (a0 : Int × Int × Int × Int × Int × Int × (List (Int × Int × Int × Int × Int)) × Int) (a1 : Int × Int × Int) (a2 : Int × Int × Int) (a3 : Int) (a4 : Int) (a5 : Int) : Option ((List (Int × (Int × Int × Int) × (Int × Int) × Int)) × Int) :=
  (F23 a0).bind fun y1 =>
  (bif (y1 != (0 : Int)) then
    some (([] : List (Int × (Int × Int × Int) × (Int × Int) × Int)), y1)
  else
    (bif (decide (a4 < (0 : Int))) then
      some (([] : List (Int × (Int × Int × Int) × (Int × Int) × Int)), (1 : Int))
    else
      (bif (decide (a5 ≤ (0 : Int))) then
        some (([] : List (Int × (Int × Int × Int) × (Int × Int) × Int)), (1 : Int))
      else
        (bif (decide (a3 < (1000 : Int))) then
          some (([] : List (Int × (Int × Int × Int) × (Int × Int) × Int)), (1 : Int))
        else
          (bif (decide (a3 < a1.2.2)) then
            some (([] : List (Int × (Int × Int × Int) × (Int × Int) × Int)), (1 : Int))
          else
            (bif (decide (a3 < a2.2.2)) then
              some (([] : List (Int × (Int × Int × Int) × (Int × Int) × Int)), (1 : Int))
            else
              (F19 a0 a3 (0 : Int)).bind fun y2 =>
              (bif (decide ((8 : Int) < (ofN (List.length y2)))) then
                some (([] : List (Int × (Int × Int × Int) × (Int × Int) × Int)), (3 : Int))
              else
                (F24 ([a1.1, a1.2.1, a1.2.2, a2.1, a2.2.1, a2.2.2, a4, a3] : List Int)).bind fun y3 =>
                (bif y3 then
                  some (([] : List (Int × (Int × Int × Int) × (Int × Int) × Int)), (11 : Int))
                else
                  (F19 a0 a3 a4).bind fun y4 =>
                  (F25 a1).bind fun y5 =>
                  (F25 a2).bind fun y6 =>
                  (F14 y4 y5 y6).bind fun y7 =>
                  (bif (y7.2 != (0 : Int)) then
                    some (([] : List (Int × (Int × Int × Int) × (Int × Int) × Int)), y7.2)
                  else
                    (F26s0 a3 a1 ([] : List (Int × (Int × Int × Int) × (Int × Int) × Int))).bind fun y8 =>
                    ((f12_l0 y7.1 (ofN (List.length y7.1)) (2 + List.length y7.1 + List.length y8.2) ((0 : Int), y8.1, y8.2)).bind fun o18 =>
                      (F28s0 a2.2.2 a5 o18.1 o18.2).bind fun y19 =>
                      some (y19.2, (0 : Int))))))))))))

theorem c12 {a0 : Int × Int × Int × Int × Int × Int × (List (Int × Int × Int × Int × Int)) × Int} {a1 : Int × Int × Int} {a2 : Int × Int × Int} {a3 : Int} {a4 : Int} {a5 : Int} {r : (List (Int × (Int × Int × Int) × (Int × Int) × Int)) × Int} (h : F12 a0 a1 a2 a3 a4 a5 = some r) : CallPure Pg 12 [(.d t23 a0), (.d t25 a1), (.d t25 a2), (.d t2 a3), (.d t2 a4), (.d t2 a5)] (.tup (.vcons (.d t31 r.1) (.vcons (.d t2 r.2) .vnil))) := by
  refine callPureN hX c_12 102 [.tmp 12, .tmp 13] [31, 32] Go.Proofs.Try.func12 (by kernel_rfl) (by kernel_rfl) (by kernel_rfl) (Nat.le_of_ble_eq_true rfl) rfl rfl ?_
  show Run Pg 102 c_12 ⟨[(0, (.d t23 a0)), (1, (.d t25 a1)), (2, (.d t25 a2)), (3, (.d t2 a3)), (4, (.d t2 a4)), (5, (.d t2 a5))], []⟩ (fin12 r)
  unfold F12 at h
  refine Run.regN hX [] 100 [3, 4, 5, 6, 7, 8] [100, 101, 102] ⟨[(3, (.d t2 a3)), (4, (.d t2 a4)), (5, (.d t2 a5)), (6, (.ptr 100 0)), (7, (.ptr 101 0)), (8, (.ptr 102 0))], [(100, (.box (.vcons (.d t23 a0) .vnil))), (101, (.box (.vcons (.d t25 a1) .vnil))), (102, (.box (.vcons (.d t25 a2) .vnil)))]⟩ [] (by kernel_rfl) (by kernel_rfl) trivial ?_
  refine Run.seqN (by kernel_rfl) ?_
  obtain ⟨y1, h_y1, h⟩ := bnd_elim h
  refine Run.regN hX [(1, .call (.d t2 y1))] 200 [3, 4, 5, 6, 7, 8, 14] [100, 101, 102] ⟨[(3, (.d t2 a3)), (4, (.d t2 a4)), (5, (.d t2 a5)), (6, (.ptr 100 0)), (7, (.ptr 101 0)), (8, (.ptr 102 0)), (14, (.d t2 y1))], [(100, (.box (.vcons (.d t23 a0) .vnil))), (101, (.box (.vcons (.d t25 a1) .vnil))), (102, (.box (.vcons (.d t25 a2) .vnil)))]⟩ [CallPure Pg 23 [(.d t23 a0)] (.d t2 y1)] (by kernel_rfl) (by kernel_rfl) ⟨(c23 h_y1), trivial⟩ ?_
  refine Run.regN hX [] 300 [3, 4, 5, 6, 7, 8, 14, 23] [100, 101, 102] ⟨[(3, (.d t2 a3)), (4, (.d t2 a4)), (5, (.d t2 a5)), (6, (.ptr 100 0)), (7, (.ptr 101 0)), (8, (.ptr 102 0)), (14, (.d t2 y1)), (23, (.d t4 (y1 != (0 : Int))))], [(100, (.box (.vcons (.d t23 a0) .vnil))), (101, (.box (.vcons (.d t25 a1) .vnil))), (102, (.box (.vcons (.d t25 a2) .vnil)))]⟩ [] (by kernel_rfl) (by kernel_rfl) trivial ?_
  refine Run.condN (y1 != (0 : Int)) (by kernel_rfl) (fun hb => ?_) (fun hb => ?_)
  · replace h := bif_t h hb
    refine Run.regN hX [] 400 [12, 13] [] ⟨[(12, .nil), (13, (.d t2 y1))], []⟩ [] (by kernel_rfl) (by kernel_rfl) trivial ?_
    refine Run.retN (by kernel_rfl) ?_
    replace h := Option.some.inj h
    subst h
    exact ⟨[(.d t31 ([] : List (Int × (Int × Int × Int) × (Int × Int) × Int))), (.d t2 y1)], by kernel_rfl, by kernel_rfl⟩
  · replace h := bif_f h hb
    refine Run.skipN (by kernel_rfl) ?_
    show Run Pg 102 _ _ _
    refine Run.seqN (by kernel_rfl) ?_
    rcases bif_elim h with ⟨hb0, h⟩ | ⟨hb0, h⟩
    · refine Run.regN hX [(2, .b true)] 500 [3, 4, 5, 6, 7, 8, 46] [100, 101, 102] ⟨[(3, (.d t2 a3)), (4, (.d t2 a4)), (5, (.d t2 a5)), (6, (.ptr 100 0)), (7, (.ptr 101 0)), (8, (.ptr 102 0)), (46, (.d t4 true))], [(100, (.box (.vcons (.d t23 a0) .vnil))), (101, (.box (.vcons (.d t25 a1) .vnil))), (102, (.box (.vcons (.d t25 a2) .vnil)))]⟩ [(decide (a4 < (0 : Int))) = true] (by kernel_rfl) (by kernel_rfl) ⟨hb0, trivial⟩ ?_
      refine Run.condN true (by kernel_rfl) (fun hb => ?_) (fun hb => (by cases hb))
      refine Run.regN hX [] 600 [12, 13] [] ⟨[(12, .nil), (13, (.d t2 (1 : Int)))], []⟩ [] (by kernel_rfl) (by kernel_rfl) trivial ?_
      refine Run.retN (by kernel_rfl) ?_
      replace h := Option.some.inj h
      subst h
      exact ⟨[(.d t31 ([] : List (Int × (Int × Int × Int) × (Int × Int) × Int))), (.d t2 (1 : Int))], by kernel_rfl, by kernel_rfl⟩
    · rcases bif_elim h with ⟨hb1, h⟩ | ⟨hb1, h⟩
      · refine Run.regN hX [(2, .b false), (6, .b true)] 500 [3, 4, 5, 6, 7, 8, 46] [100, 101, 102] ⟨[(3, (.d t2 a3)), (4, (.d t2 a4)), (5, (.d t2 a5)), (6, (.ptr 100 0)), (7, (.ptr 101 0)), (8, (.ptr 102 0)), (46, (.d t4 true))], [(100, (.box (.vcons (.d t23 a0) .vnil))), (101, (.box (.vcons (.d t25 a1) .vnil))), (102, (.box (.vcons (.d t25 a2) .vnil)))]⟩ [(decide (a4 < (0 : Int))) = false, (decide (a5 ≤ (0 : Int))) = true] (by kernel_rfl) (by kernel_rfl) ⟨hb0, hb1, trivial⟩ ?_
        refine Run.condN true (by kernel_rfl) (fun hb => ?_) (fun hb => (by cases hb))
        refine Run.regN hX [] 600 [12, 13] [] ⟨[(12, .nil), (13, (.d t2 (1 : Int)))], []⟩ [] (by kernel_rfl) (by kernel_rfl) trivial ?_
        refine Run.retN (by kernel_rfl) ?_
        replace h := Option.some.inj h
        subst h
        exact ⟨[(.d t31 ([] : List (Int × (Int × Int × Int) × (Int × Int) × Int))), (.d t2 (1 : Int))], by kernel_rfl, by kernel_rfl⟩
      · rcases bif_elim h with ⟨hb2, h⟩ | ⟨hb2, h⟩
        · refine Run.regN hX [(2, .b false), (6, .b false), (10, .b true)] 500 [3, 4, 5, 6, 7, 8, 46] [100, 101, 102] ⟨[(3, (.d t2 a3)), (4, (.d t2 a4)), (5, (.d t2 a5)), (6, (.ptr 100 0)), (7, (.ptr 101 0)), (8, (.ptr 102 0)), (46, (.d t4 true))], [(100, (.box (.vcons (.d t23 a0) .vnil))), (101, (.box (.vcons (.d t25 a1) .vnil))), (102, (.box (.vcons (.d t25 a2) .vnil)))]⟩ [(decide (a4 < (0 : Int))) = false, (decide (a5 ≤ (0 : Int))) = false, (decide (a3 < (1000 : Int))) = true] (by kernel_rfl) (by kernel_rfl) ⟨hb0, hb1, hb2, trivial⟩ ?_
          refine Run.condN true (by kernel_rfl) (fun hb => ?_) (fun hb => (by cases hb))
          refine Run.regN hX [] 600 [12, 13] [] ⟨[(12, .nil), (13, (.d t2 (1 : Int)))], []⟩ [] (by kernel_rfl) (by kernel_rfl) trivial ?_
          refine Run.retN (by kernel_rfl) ?_
          replace h := Option.some.inj h
          subst h
          exact ⟨[(.d t31 ([] : List (Int × (Int × Int × Int) × (Int × Int) × Int))), (.d t2 (1 : Int))], by kernel_rfl, by kernel_rfl⟩
        · rcases bif_elim h with ⟨hb3, h⟩ | ⟨hb3, h⟩
          · refine Run.regN hX [(2, .b false), (6, .b false), (10, .b false), (16, .b true)] 500 [3, 4, 5, 6, 7, 8, 46] [100, 101, 102] ⟨[(3, (.d t2 a3)), (4, (.d t2 a4)), (5, (.d t2 a5)), (6, (.ptr 100 0)), (7, (.ptr 101 0)), (8, (.ptr 102 0)), (46, (.d t4 true))], [(100, (.box (.vcons (.d t23 a0) .vnil))), (101, (.box (.vcons (.d t25 a1) .vnil))), (102, (.box (.vcons (.d t25 a2) .vnil)))]⟩ [(decide (a4 < (0 : Int))) = false, (decide (a5 ≤ (0 : Int))) = false, (decide (a3 < (1000 : Int))) = false, (decide (a3 < a1.2.2)) = true] (by kernel_rfl) (by kernel_rfl) ⟨hb0, hb1, hb2, hb3, trivial⟩ ?_
            refine Run.condN true (by kernel_rfl) (fun hb => ?_) (fun hb => (by cases hb))
            refine Run.regN hX [] 600 [12, 13] [] ⟨[(12, .nil), (13, (.d t2 (1 : Int)))], []⟩ [] (by kernel_rfl) (by kernel_rfl) trivial ?_
            refine Run.retN (by kernel_rfl) ?_
            replace h := Option.some.inj h
            subst h
            exact ⟨[(.d t31 ([] : List (Int × (Int × Int × Int) × (Int × Int) × Int))), (.d t2 (1 : Int))], by kernel_rfl, by kernel_rfl⟩
          · refine Run.regN hX [(2, .b false), (6, .b false), (10, .b false), (16, .b false)] 500 [3, 4, 5, 6, 7, 8, 46] [100, 101, 102] ⟨[(3, (.d t2 a3)), (4, (.d t2 a4)), (5, (.d t2 a5)), (6, (.ptr 100 0)), (7, (.ptr 101 0)), (8, (.ptr 102 0)), (46, (.d t4 (decide (a3 < a2.2.2))))], [(100, (.box (.vcons (.d t23 a0) .vnil))), (101, (.box (.vcons (.d t25 a1) .vnil))), (102, (.box (.vcons (.d t25 a2) .vnil)))]⟩ [(decide (a4 < (0 : Int))) = false, (decide (a5 ≤ (0 : Int))) = false, (decide (a3 < (1000 : Int))) = false, (decide (a3 < a1.2.2)) = false] (by kernel_rfl) (by kernel_rfl) ⟨hb0, hb1, hb2, hb3, trivial⟩ ?_
            refine Run.condN (decide (a3 < a2.2.2)) (by kernel_rfl) (fun hb => ?_) (fun hb => ?_)
            · replace h := bif_t h hb
              refine Run.regN hX [] 600 [12, 13] [] ⟨[(12, .nil), (13, (.d t2 (1 : Int)))], []⟩ [] (by kernel_rfl) (by kernel_rfl) trivial ?_
              refine Run.retN (by kernel_rfl) ?_
              replace h := Option.some.inj h
              subst h
              exact ⟨[(.d t31 ([] : List (Int × (Int × Int × Int) × (Int × Int) × Int))), (.d t2 (1 : Int))], by kernel_rfl, by kernel_rfl⟩
            · replace h := bif_f h hb
              refine Run.skipN (by kernel_rfl) ?_
              show Run Pg 102 _ _ _
              refine Run.seqN (by kernel_rfl) ?_
              obtain ⟨y2, h_y2, h⟩ := bnd_elim h
              refine Run.regN hX [(2, .call (.d t22 y2))] 700 [3, 4, 5, 6, 7, 8, 51] [100, 101, 102] ⟨[(3, (.d t2 a3)), (4, (.d t2 a4)), (5, (.d t2 a5)), (6, (.ptr 100 0)), (7, (.ptr 101 0)), (8, (.ptr 102 0)), (51, (.d t4 (decide ((8 : Int) < (ofN (List.length y2))))))], [(100, (.box (.vcons (.d t23 a0) .vnil))), (101, (.box (.vcons (.d t25 a1) .vnil))), (102, (.box (.vcons (.d t25 a2) .vnil)))]⟩ [CallPure Pg 19 [(.d t23 a0), (.d t2 a3), (.d t2 (0 : Int))] (.d t22 y2)] (by kernel_rfl) (by kernel_rfl) ⟨(c19 h_y2), trivial⟩ ?_
              refine Run.condN (decide ((8 : Int) < (ofN (List.length y2)))) (by kernel_rfl) (fun hb => ?_) (fun hb => ?_)
              · replace h := bif_t h hb
                refine Run.regN hX [] 800 [12, 13] [] ⟨[(12, .nil), (13, (.d t2 (3 : Int)))], []⟩ [] (by kernel_rfl) (by kernel_rfl) trivial ?_
                refine Run.retN (by kernel_rfl) ?_
                replace h := Option.some.inj h
                subst h
                exact ⟨[(.d t31 ([] : List (Int × (Int × Int × Int) × (Int × Int) × Int))), (.d t2 (3 : Int))], by kernel_rfl, by kernel_rfl⟩
              · replace h := bif_f h hb
                refine Run.skipN (by kernel_rfl) ?_
                show Run Pg 102 _ _ _
                refine Run.seqN (by kernel_rfl) ?_
                obtain ⟨y3, h_y3, h⟩ := bnd_elim h
                refine Run.regN hX [(15, .call (.d t4 y3))] 900 [3, 4, 5, 6, 7, 8, 67] [100, 101, 102] ⟨[(3, (.d t2 a3)), (4, (.d t2 a4)), (5, (.d t2 a5)), (6, (.ptr 100 0)), (7, (.ptr 101 0)), (8, (.ptr 102 0)), (67, (.d t4 y3))], [(100, (.box (.vcons (.d t23 a0) .vnil))), (101, (.box (.vcons (.d t25 a1) .vnil))), (102, (.box (.vcons (.d t25 a2) .vnil)))]⟩ [CallPure Pg 24 [(.d t57 ([a1.1, a1.2.1, a1.2.2, a2.1, a2.2.1, a2.2.2, a4, a3] : List Int))] (.d t4 y3)] (by kernel_rfl) (by kernel_rfl) ⟨(c24 h_y3), trivial⟩ ?_
                refine Run.condN y3 (by kernel_rfl) (fun hb => ?_) (fun hb => ?_)
                · replace h := bif_t h hb
                  refine Run.regN hX [] 1000 [12, 13] [] ⟨[(12, .nil), (13, (.d t2 (11 : Int)))], []⟩ [] (by kernel_rfl) (by kernel_rfl) trivial ?_
                  refine Run.retN (by kernel_rfl) ?_
                  replace h := Option.some.inj h
                  subst h
                  exact ⟨[(.d t31 ([] : List (Int × (Int × Int × Int) × (Int × Int) × Int))), (.d t2 (11 : Int))], by kernel_rfl, by kernel_rfl⟩
                · replace h := bif_f h hb
                  refine Run.skipN (by kernel_rfl) ?_
                  show Run Pg 102 _ _ _
                  obtain ⟨y4, h_y4, h⟩ := bnd_elim h
                  obtain ⟨y5, h_y5, h⟩ := bnd_elim h
                  obtain ⟨y6, h_y6, h⟩ := bnd_elim h
                  obtain ⟨y7, h_y7, h⟩ := bnd_elim h
                  refine Run.regN hX [(3, .call (.d t22 y4)), (5, .call (.d t28 y5)), (7, .call (.d t28 y6)), (8, .call (.tup (.vcons (.d t45 y7.1) (.vcons (.d t2 y7.2) .vnil))))] 1100 [3, 5, 7, 8, 15, 16] [101, 102] ⟨[(3, (.d t2 a3)), (5, (.d t2 a5)), (7, (.ptr 101 0)), (8, (.ptr 102 0)), (15, (.d t45 y7.1)), (16, (.d t2 y7.2))], [(101, (.box (.vcons (.d t25 a1) .vnil))), (102, (.box (.vcons (.d t25 a2) .vnil)))]⟩ [CallPure Pg 19 [(.d t23 a0), (.d t2 a3), (.d t2 a4)] (.d t22 y4), CallPure Pg 25 [(.d t25 a1)] (.d t28 y5), CallPure Pg 25 [(.d t25 a2)] (.d t28 y6), CallPure Pg 14 [(.d t22 y4), (.d t28 y5), (.d t28 y6)] (.tup (.vcons (.d t45 y7.1) (.vcons (.d t2 y7.2) .vnil)))] (by kernel_rfl) (by kernel_rfl) ⟨(c19 h_y4), (c25 h_y5), (c25 h_y6), (c14 h_y7), trivial⟩ ?_
                  refine Run.seqN (by kernel_rfl) ?_
                  refine Run.regN hX [] 1200 [3, 5, 7, 8, 15, 16, 81] [101, 102] ⟨[(3, (.d t2 a3)), (5, (.d t2 a5)), (7, (.ptr 101 0)), (8, (.ptr 102 0)), (15, (.d t45 y7.1)), (16, (.d t2 y7.2)), (81, (.d t4 (y7.2 != (0 : Int))))], [(101, (.box (.vcons (.d t25 a1) .vnil))), (102, (.box (.vcons (.d t25 a2) .vnil)))]⟩ [] (by kernel_rfl) (by kernel_rfl) trivial ?_
                  refine Run.condN (y7.2 != (0 : Int)) (by kernel_rfl) (fun hb => ?_) (fun hb => ?_)
                  · replace h := bif_t h hb
                    refine Run.regN hX [] 1300 [12, 13] [] ⟨[(12, .nil), (13, (.d t2 y7.2))], []⟩ [] (by kernel_rfl) (by kernel_rfl) trivial ?_
                    refine Run.retN (by kernel_rfl) ?_
                    replace h := Option.some.inj h
                    subst h
                    exact ⟨[(.d t31 ([] : List (Int × (Int × Int × Int) × (Int × Int) × Int))), (.d t2 y7.2)], by kernel_rfl, by kernel_rfl⟩
                  · replace h := bif_f h hb
                    refine Run.skipN (by kernel_rfl) ?_
                    show Run Pg 102 _ _ _
                    refine Run.regN hX [(1, .part)] 1400 [3, 5, 8, 15, 17] [102, 1402] ⟨[(3, (.d t2 a3)), (5, (.d t2 a5)), (8, (.ptr 102 0)), (15, (.d t45 y7.1)), (17, (.ptr 1402 0))], [(102, (.box (.vcons (.d t25 a2) .vnil))), (1402, (.box (.vcons (.d t25 a1) (.vcons .nil .vnil))))]⟩ [] (by kernel_rfl) (by kernel_rfl) trivial ?_
                    refine Run.nameB (s' := ⟨[(3, (.d t2 a3)), (5, (.d t2 a5)), (8, (.ptr 102 0)), (15, (.d t45 y7.1)), (17, (.ptr 1402 0))], [(90903, (.vec 67 t66 ([] : List (Int × (Int × Int × Int) × (Int × Int) × Int)))), (102, (.box (.vcons (.d t25 a2) .vnil))), (1402, (.box (.vcons (.d t25 a1) (.vcons (.vec 90903 t66) .vnil))))]⟩) 1402 1 90903 67 t66 (by kernel_rfl) ?_
                    obtain ⟨y8, h_y8, h⟩ := bnd_elim h
                    refine Run.regN hX [(1, .callS [(1000000, (.box (.vcons (.d t25 a1) (.vcons (.vec 900001 t66) .vnil)))), (900001, (.vec 67 t66 ([] : List (Int × (Int × Int × Int) × (Int × Int) × Int))))] [(.ptr 1000000 0), (.d t2 a3)] [(1000000, 1402), (900001, 90903)] (.tup .vnil) [(1000000, (.box (.vcons (.d t25 y8.1) (.vcons (.vec 900001 t66) .vnil)))), (900001, (.vec 67 t66 y8.2))])] 1500 [5, 8, 15, 17] [102, 1402, 90903] ⟨[(5, (.d t2 a5)), (8, (.ptr 102 0)), (15, (.d t45 y7.1)), (17, (.ptr 1402 0))], [(102, (.box (.vcons (.d t25 a2) .vnil))), (1402, (.box (.vcons (.d t25 y8.1) (.vcons (.vec 90903 t66) .vnil)))), (90903, (.vec 67 t66 y8.2))]⟩ [(([(.ptr 1402 0), (.d t2 a3)] : List V) = List.map (V.ren (renL [(1000000, 1402), (900001, 90903)] 1501)) [(.ptr 1000000 0), (.d t2 a3)]), CallSt Pg 26 [(.ptr 1000000 0), (.d t2 a3)] [(1000000, (.box (.vcons (.d t25 a1) (.vcons (.vec 900001 t66) .vnil)))), (900001, (.vec 67 t66 ([] : List (Int × (Int × Int × Int) × (Int × Int) × Int))))] (.tup .vnil) [(1000000, (.box (.vcons (.d t25 y8.1) (.vcons (.vec 900001 t66) .vnil)))), (900001, (.vec 67 t66 y8.2))], ((some (.box (.vcons (.d t25 a1) (.vcons (.vec 90903 t66) .vnil))) : Option E) = some (E.ren (renL [(1000000, 1402), (900001, 90903)] 1501) (.box (.vcons (.d t25 a1) (.vcons (.vec 900001 t66) .vnil))))), ((some (.vec 67 t66 ([] : List (Int × (Int × Int × Int) × (Int × Int) × Int))) : Option E) = some (E.ren (renL [(1000000, 1402), (900001, 90903)] 1501) (.vec 67 t66 ([] : List (Int × (Int × Int × Int) × (Int × Int) × Int)))))] (by kernel_rfl) (by kernel_rfl) ⟨(by kernel_rfl), (c26s0 h_y8), (by kernel_rfl), (by kernel_rfl), trivial⟩ ?_
                    refine Run.seqN (by kernel_rfl) ?_
                    refine Run.regN hX [] 1600 [5, 8, 17, 87, 88, 89] [102, 1402, 90903] ⟨[(5, (.d t2 a5)), (8, (.ptr 102 0)), (17, (.ptr 1402 0)), (87, (.d t45 y7.1)), (88, (.d t2 (ofN (List.length y7.1)))), (89, (.d t2 (0 : Int)))], [(102, (.box (.vcons (.d t25 a2) .vnil))), (1402, (.box (.vcons (.d t25 y8.1) (.vcons (.vec 90903 t66) .vnil)))), (90903, (.vec 67 t66 y8.2))]⟩ [] (by kernel_rfl) (by kernel_rfl) trivial ?_
                    refine Run.blockN 0 (by kernel_rfl) ?_
                    obtain ⟨o18, h_o18, h⟩ := bnd_elim h
                    refine Run.mono (f12_l0_ok a5 y7.1 (ofN (List.length y7.1)) a2 _ (0 : Int) y8.1 y8.2 h_o18) ?_
                    rintro x s ⟨hx, hs⟩
                    subst hx
                    subst hs
                    show Run Pg 102 _ _ _
                    obtain ⟨y19, h_y19, h⟩ := bnd_elim h
                    refine Run.regN hX [(3, .callS [(1000000, (.box (.vcons (.d t25 o18.1) (.vcons (.vec 900001 t66) .vnil)))), (900001, (.vec 67 t66 o18.2))] [(.ptr 1000000 0), (.d t2 a2.2.2), (.d t2 a5)] [(1000000, 1402), (900001, 90903)] (.tup .vnil) [(1000000, (.box (.vcons (.d t25 y19.1) (.vcons (.vec 900001 t66) .vnil)))), (900001, (.vec 67 t66 y19.2))])] 2100 [17] [1402, 90903] ⟨[(17, (.ptr 1402 0))], [(1402, (.box (.vcons (.d t25 y19.1) (.vcons (.vec 90903 t66) .vnil)))), (90903, (.vec 67 t66 y19.2))]⟩ [(([(.ptr 1402 0), (.d t2 a2.2.2), (.d t2 a5)] : List V) = List.map (V.ren (renL [(1000000, 1402), (900001, 90903)] 2103)) [(.ptr 1000000 0), (.d t2 a2.2.2), (.d t2 a5)]), CallSt Pg 28 [(.ptr 1000000 0), (.d t2 a2.2.2), (.d t2 a5)] [(1000000, (.box (.vcons (.d t25 o18.1) (.vcons (.vec 900001 t66) .vnil)))), (900001, (.vec 67 t66 o18.2))] (.tup .vnil) [(1000000, (.box (.vcons (.d t25 y19.1) (.vcons (.vec 900001 t66) .vnil)))), (900001, (.vec 67 t66 y19.2))], ((some (.box (.vcons (.d t25 o18.1) (.vcons (.vec 90903 t66) .vnil))) : Option E) = some (E.ren (renL [(1000000, 1402), (900001, 90903)] 2103) (.box (.vcons (.d t25 o18.1) (.vcons (.vec 900001 t66) .vnil))))), ((some (.vec 67 t66 o18.2) : Option E) = some (E.ren (renL [(1000000, 1402), (900001, 90903)] 2103) (.vec 67 t66 o18.2)))] (by kernel_rfl) (by kernel_rfl) ⟨(by kernel_rfl), (c28s0 h_y19), (by kernel_rfl), (by kernel_rfl), trivial⟩ ?_
                    refine Run.regN hX [] 2200 [12, 13] [90903] ⟨[(12, (.vec 90903 t66)), (13, (.d t2 (0 : Int)))], [(90903, (.vec 67 t66 y19.2))]⟩ [] (by kernel_rfl) (by kernel_rfl) trivial ?_
                    refine Run.freeze (s' := ⟨[(12, (.d t31 y19.2)), (13, (.d t2 (0 : Int)))], []⟩) 90903 (by kernel_rfl) ?_
                    refine Run.retN (by kernel_rfl) ?_
                    replace h := Option.some.inj h
                    subst h
                    exact ⟨[(.d t31 y19.2), (.d t2 (0 : Int))], by kernel_rfl, by kernel_rfl⟩

/-! ## f48 -/

noncomputable def c_48 : Code := body0 Go.Proofs.Try.f48

def fin48 (r : Bool) : Ex → St → Prop := endK X0 [.tmp 4] [4] (.d t4 r)

def F48 (a0 : Int) (a1 : Int) : Option (Bool) :=
  (bif (decide (a1 ≤ a0)) then
    some (decide (a0 ≤ (10000000 : Int)))
  else
    some false)

theorem c48 {a0 : Int} {a1 : Int} {r : Bool} (h : F48 a0 a1 = some r) : CallPure Pg 48 [(.d t2 a0), (.d t2 a1)] (.d t4 r) := by
  refine callPureN hX c_48 12 [.tmp 4] [4] Go.Proofs.Try.func48 (by kernel_rfl) (by kernel_rfl) (by kernel_rfl) (Nat.le_of_ble_eq_true rfl) rfl rfl ?_
  show Run Pg 12 c_48 ⟨[(0, (.d t2 a0)), (1, (.d t2 a1))], []⟩ (fin48 r)
  unfold F48 at h
  refine Run.regN hX [] 100 [0, 1] [] ⟨[(0, (.d t2 a0)), (1, (.d t2 a1))], []⟩ [] (by kernel_rfl) (by kernel_rfl) trivial ?_
  rcases bif_elim h with ⟨hb0, h⟩ | ⟨hb0, h⟩
  · refine Run.regN hX [(3, .b true)] 200 [4] [] ⟨[(4, (.d t4 (decide (a0 ≤ (10000000 : Int)))))], []⟩ [(decide (a1 ≤ a0)) = true] (by kernel_rfl) (by kernel_rfl) ⟨hb0, trivial⟩ ?_
    refine Run.retN (by kernel_rfl) ?_
    replace h := Option.some.inj h
    subst h
    exact ⟨[(.d t4 (decide (a0 ≤ (10000000 : Int))))], by kernel_rfl, by kernel_rfl⟩
  · refine Run.regN hX [(3, .b false)] 200 [4] [] ⟨[(4, (.d t4 false))], []⟩ [(decide (a1 ≤ a0)) = false] (by kernel_rfl) (by kernel_rfl) ⟨hb0, trivial⟩ ?_
    refine Run.retN (by kernel_rfl) ?_
    replace h := Option.some.inj h
    subst h
    exact ⟨[(.d t4 false)], by kernel_rfl, by kernel_rfl⟩

/-! ## f47 -/

noncomputable def c_47 : Code := body0 Go.Proofs.Try.f47

def fin47 (r : Bool) : Ex → St → Prop := endK X0 [.tmp 8] [4] (.d t4 r)

def F47 (a0 : Int) (a1 : Int) (a2 : Int) (a3 : Int) : Option (Bool) :=
  (F48 a0 (-10000000 : Int)).bind fun y1 =>
  (bif y1 then
    (F48 a1 (-10000000 : Int)).bind fun y2 =>
    (bif y2 then
      (F48 a2 (-10000000 : Int)).bind fun y3 =>
      (bif y3 then
        (F48 a3 (-10000000 : Int)).bind fun y4 =>
        (bif y4 then
          (bif (decide (a0 < a2)) then
            some (decide (a1 < a3))
          else
            some false)
        else
          some false)
      else
        some false)
    else
      some false)
  else
    some false)

theorem c47 {a0 : Int} {a1 : Int} {a2 : Int} {a3 : Int} {r : Bool} (h : F47 a0 a1 a2 a3 = some r) : CallPure Pg 47 [(.d t2 a0), (.d t2 a1), (.d t2 a2), (.d t2 a3)] (.d t4 r) := by
  refine callPureN hX c_47 38 [.tmp 8] [4] Go.Proofs.Try.func47 (by kernel_rfl) (by kernel_rfl) (by kernel_rfl) (Nat.le_of_ble_eq_true rfl) rfl rfl ?_
  show Run Pg 38 c_47 ⟨[(0, (.d t2 a0)), (1, (.d t2 a1)), (2, (.d t2 a2)), (3, (.d t2 a3))], []⟩ (fin47 r)
  unfold F47 at h
  refine Run.regN hX [] 100 [0, 1, 2, 3] [] ⟨[(0, (.d t2 a0)), (1, (.d t2 a1)), (2, (.d t2 a2)), (3, (.d t2 a3))], []⟩ [] (by kernel_rfl) (by kernel_rfl) trivial ?_
  refine Run.regN hX [] 200 [0, 1, 2, 3, 9] [] ⟨[(0, (.d t2 a0)), (1, (.d t2 a1)), (2, (.d t2 a2)), (3, (.d t2 a3)), (9, (.d t2 (-10000000 : Int)))], []⟩ [] (by kernel_rfl) (by kernel_rfl) trivial ?_
  obtain ⟨y1, h_y1, h⟩ := bnd_elim h
  rcases bif_elim h with ⟨hb1, h⟩ | ⟨hb1, h⟩
  · obtain ⟨y2, h_y2, h⟩ := bnd_elim h
    rcases bif_elim h with ⟨hb3, h⟩ | ⟨hb3, h⟩
    · obtain ⟨y3, h_y3, h⟩ := bnd_elim h
      rcases bif_elim h with ⟨hb5, h⟩ | ⟨hb5, h⟩
      · obtain ⟨y4, h_y4, h⟩ := bnd_elim h
        rcases bif_elim h with ⟨hb7, h⟩ | ⟨hb7, h⟩
        · rcases bif_elim h with ⟨hb8, h⟩ | ⟨hb8, h⟩
          · refine Run.regN hX [(2, .call (.d t4 y1)), (3, .b true), (6, .call (.d t4 y2)), (8, .b true), (11, .call (.d t4 y3)), (13, .b true), (16, .call (.d t4 y4)), (18, .b true), (23, .b true)] 300 [8] [] ⟨[(8, (.d t4 (decide (a1 < a3))))], []⟩ [CallPure Pg 48 [(.d t2 a0), (.d t2 (-10000000 : Int))] (.d t4 y1), y1 = true, CallPure Pg 48 [(.d t2 a1), (.d t2 (-10000000 : Int))] (.d t4 y2), y2 = true, CallPure Pg 48 [(.d t2 a2), (.d t2 (-10000000 : Int))] (.d t4 y3), y3 = true, CallPure Pg 48 [(.d t2 a3), (.d t2 (-10000000 : Int))] (.d t4 y4), y4 = true, (decide (a0 < a2)) = true] (by kernel_rfl) (by kernel_rfl) ⟨(c48 h_y1), hb1, (c48 h_y2), hb3, (c48 h_y3), hb5, (c48 h_y4), hb7, hb8, trivial⟩ ?_
            refine Run.retN (by kernel_rfl) ?_
            replace h := Option.some.inj h
            subst h
            exact ⟨[(.d t4 (decide (a1 < a3)))], by kernel_rfl, by kernel_rfl⟩
          · refine Run.regN hX [(2, .call (.d t4 y1)), (3, .b true), (6, .call (.d t4 y2)), (8, .b true), (11, .call (.d t4 y3)), (13, .b true), (16, .call (.d t4 y4)), (18, .b true), (23, .b false)] 300 [8] [] ⟨[(8, (.d t4 false))], []⟩ [CallPure Pg 48 [(.d t2 a0), (.d t2 (-10000000 : Int))] (.d t4 y1), y1 = true, CallPure Pg 48 [(.d t2 a1), (.d t2 (-10000000 : Int))] (.d t4 y2), y2 = true, CallPure Pg 48 [(.d t2 a2), (.d t2 (-10000000 : Int))] (.d t4 y3), y3 = true, CallPure Pg 48 [(.d t2 a3), (.d t2 (-10000000 : Int))] (.d t4 y4), y4 = true, (decide (a0 < a2)) = false] (by kernel_rfl) (by kernel_rfl) ⟨(c48 h_y1), hb1, (c48 h_y2), hb3, (c48 h_y3), hb5, (c48 h_y4), hb7, hb8, trivial⟩ ?_
            refine Run.retN (by kernel_rfl) ?_
            replace h := Option.some.inj h
            subst h
            exact ⟨[(.d t4 false)], by kernel_rfl, by kernel_rfl⟩
        · refine Run.regN hX [(2, .call (.d t4 y1)), (3, .b true), (6, .call (.d t4 y2)), (8, .b true), (11, .call (.d t4 y3)), (13, .b true), (16, .call (.d t4 y4)), (18, .b false)] 300 [8] [] ⟨[(8, (.d t4 false))], []⟩ [CallPure Pg 48 [(.d t2 a0), (.d t2 (-10000000 : Int))] (.d t4 y1), y1 = true, CallPure Pg 48 [(.d t2 a1), (.d t2 (-10000000 : Int))] (.d t4 y2), y2 = true, CallPure Pg 48 [(.d t2 a2), (.d t2 (-10000000 : Int))] (.d t4 y3), y3 = true, CallPure Pg 48 [(.d t2 a3), (.d t2 (-10000000 : Int))] (.d t4 y4), y4 = false] (by kernel_rfl) (by kernel_rfl) ⟨(c48 h_y1), hb1, (c48 h_y2), hb3, (c48 h_y3), hb5, (c48 h_y4), hb7, trivial⟩ ?_
          refine Run.retN (by kernel_rfl) ?_
          replace h := Option.some.inj h
          subst h
          exact ⟨[(.d t4 false)], by kernel_rfl, by kernel_rfl⟩
      · refine Run.regN hX [(2, .call (.d t4 y1)), (3, .b true), (6, .call (.d t4 y2)), (8, .b true), (11, .call (.d t4 y3)), (13, .b false)] 300 [8] [] ⟨[(8, (.d t4 false))], []⟩ [CallPure Pg 48 [(.d t2 a0), (.d t2 (-10000000 : Int))] (.d t4 y1), y1 = true, CallPure Pg 48 [(.d t2 a1), (.d t2 (-10000000 : Int))] (.d t4 y2), y2 = true, CallPure Pg 48 [(.d t2 a2), (.d t2 (-10000000 : Int))] (.d t4 y3), y3 = false] (by kernel_rfl) (by kernel_rfl) ⟨(c48 h_y1), hb1, (c48 h_y2), hb3, (c48 h_y3), hb5, trivial⟩ ?_
        refine Run.retN (by kernel_rfl) ?_
        replace h := Option.some.inj h
        subst h
        exact ⟨[(.d t4 false)], by kernel_rfl, by kernel_rfl⟩
    · refine Run.regN hX [(2, .call (.d t4 y1)), (3, .b true), (6, .call (.d t4 y2)), (8, .b false)] 300 [8] [] ⟨[(8, (.d t4 false))], []⟩ [CallPure Pg 48 [(.d t2 a0), (.d t2 (-10000000 : Int))] (.d t4 y1), y1 = true, CallPure Pg 48 [(.d t2 a1), (.d t2 (-10000000 : Int))] (.d t4 y2), y2 = false] (by kernel_rfl) (by kernel_rfl) ⟨(c48 h_y1), hb1, (c48 h_y2), hb3, trivial⟩ ?_
      refine Run.retN (by kernel_rfl) ?_
      replace h := Option.some.inj h
      subst h
      exact ⟨[(.d t4 false)], by kernel_rfl, by kernel_rfl⟩
  · refine Run.regN hX [(2, .call (.d t4 y1)), (3, .b false)] 300 [8] [] ⟨[(8, (.d t4 false))], []⟩ [CallPure Pg 48 [(.d t2 a0), (.d t2 (-10000000 : Int))] (.d t4 y1), y1 = false] (by kernel_rfl) (by kernel_rfl) ⟨(c48 h_y1), hb1, trivial⟩ ?_
    refine Run.retN (by kernel_rfl) ?_
    replace h := Option.some.inj h
    subst h
    exact ⟨[(.d t4 false)], by kernel_rfl, by kernel_rfl⟩

/-! ## f22 -/

noncomputable def c_22 : Code := body0 Go.Proofs.Try.f22

def fin22 (r : Int) : Ex → St → Prop := endK X0 [.tmp 2] [32] (.d t2 r)

def f22_l0_post (x4 : Int × Int × Int × Int × Int × Int × (List (Int × Int × Int × Int × Int)) × Int) : (Bool) → Ex → St → Prop
  | o, x, s => x = .out 0 ∧ s = ⟨[(3, (.d t4 o))], []⟩

def f22_l0_b (x4 : Int × Int × Int × Int × Int × Int × (List (Int × Int × Int × Int × Int)) × Int) (again : Bool × Int → Option (Bool)) : Bool × Int → Option (Bool)
  | (x2, x3) =>
    (bif (decide (x3 < (ofN (List.length x4.2.2.2.2.2.2.1)))) then
      (bif x2 then
        gd (0 ≤ x3) <|
        gd (x3 < ((List.length x4.2.2.2.2.2.2.1 : Nat) : Int)) <|
        (F47 (List.getD x4.2.2.2.2.2.2.1 (toN x3) ((0 : Int), (0 : Int), (0 : Int), (0 : Int), (0 : Int))).1 (List.getD x4.2.2.2.2.2.2.1 (toN x3) ((0 : Int), (0 : Int), (0 : Int), (0 : Int), (0 : Int))).2.1 (List.getD x4.2.2.2.2.2.2.1 (toN x3) ((0 : Int), (0 : Int), (0 : Int), (0 : Int), (0 : Int))).2.2.1 (List.getD x4.2.2.2.2.2.2.1 (toN x3) ((0 : Int), (0 : Int), (0 : Int), (0 : Int), (0 : Int))).2.2.2.1).bind fun y6 =>
        (bif y6 then
          (F48 (List.getD x4.2.2.2.2.2.2.1 (toN x3) ((0 : Int), (0 : Int), (0 : Int), (0 : Int), (0 : Int))).2.2.2.2 (max2i (wrapI .i64 ((wrapI .i64 (0 - x4.2.2.2.2.1)) - x4.2.2.2.2.2.1)) (-10000000 : Int))).bind fun y7 =>
          (bif y7 then
            again ((decide ((List.getD x4.2.2.2.2.2.2.1 (toN x3) ((0 : Int), (0 : Int), (0 : Int), (0 : Int), (0 : Int))).2.2.2.2 < x4.2.2.2.2.2.2.2)), (wrapI .i64 (x3 + (1 : Int))))
          else
            again (false, (wrapI .i64 (x3 + (1 : Int)))))
        else
          again (false, (wrapI .i64 (x3 + (1 : Int)))))
      else
        some x2)
    else
      some x2)

def f22_l0 (x4 : Int × Int × Int × Int × Int × Int × (List (Int × Int × Int × Int × Int)) × Int) : Nat → Bool × Int → Option (Bool) := loopF (f22_l0_b x4)

theorem f22_l0_ok (x4 : Int × Int × Int × Int × Int × Int × (List (Int × Int × Int × Int × Int)) × Int) (k : Nat) (x2 : Bool) (x3 : Int) {out : (Bool)} (h : f22_l0 x4 k (x2, x3) = some out) : Run Pg 81 (bk1 (sq2 (sq1 (sq2 (sq2 c_22))))) ⟨[(1, (.ptr 100 0)), (3, (.d t4 x2)), (4, (.d t2 x3))], [(100, (.box (.vcons (.d t23 x4) .vnil)))]⟩ (f22_l0_post x4 out) := by
  refine Run.loopN (by kernel_rfl) (fun m s => ∃ x2 x3, s = ⟨[(1, (.ptr 100 0)), (3, (.d t4 x2)), (4, (.d t2 x3))], [(100, (.box (.vcons (.d t23 x4) .vnil)))]⟩ ∧ f22_l0 x4 m (x2, x3) = some out) ?_ k ⟨x2, x3,  rfl, h⟩
  rintro m s ⟨x2, x3,  rfl, h⟩
  cases m with
  | zero => cases h
  | succ m =>
  replace h : f22_l0_b x4 (f22_l0 x4 m) (x2, x3) = some out := h
  unfold f22_l0_b at h
  refine Run.seqN (by kernel_rfl) ?_
  rcases bif_elim h with ⟨hb0, h⟩ | ⟨hb0, h⟩
  · refine Run.regN hX [(5, .b true)] 400 [1, 3, 4, 43] [100] ⟨[(1, (.ptr 100 0)), (3, (.d t4 x2)), (4, (.d t2 x3)), (43, (.d t4 x2))], [(100, (.box (.vcons (.d t23 x4) .vnil)))]⟩ [(decide (x3 < (ofN (List.length x4.2.2.2.2.2.2.1)))) = true] (by kernel_rfl) (by kernel_rfl) ⟨hb0, trivial⟩ ?_
    refine Run.condN x2 (by kernel_rfl) (fun hb => ?_) (fun hb => ?_)
    · replace h := bif_t h hb
      refine Run.skipN (by kernel_rfl) ?_
      show Run Pg 81 _ _ _
      refine Run.seqN (by kernel_rfl) ?_
      refine Run.blockN 1 (by kernel_rfl) ?_
      obtain ⟨g_0, h⟩ := gd_elim h
      obtain ⟨g_1, h⟩ := gd_elim h
      refine Run.regN hX [] 600 [1, 4, 5] [100, 605] ⟨[(1, (.ptr 100 0)), (4, (.d t2 x3)), (5, (.ptr 605 0))], [(100, (.box (.vcons (.d t23 x4) .vnil))), (605, (.box (.vcons (.d t55 (List.getD x4.2.2.2.2.2.2.1 (toN x3) ((0 : Int), (0 : Int), (0 : Int), (0 : Int), (0 : Int)))) .vnil)))]⟩ [(0 ≤ x3), (x3 < ((List.length x4.2.2.2.2.2.2.1 : Nat) : Int))] (by kernel_rfl) (by kernel_rfl) ⟨g_0, g_1, trivial⟩ ?_
      obtain ⟨y6, h_y6, h⟩ := bnd_elim h
      rcases bif_elim h with ⟨hb1, h⟩ | ⟨hb1, h⟩
      · obtain ⟨y7, h_y7, h⟩ := bnd_elim h
        rcases bif_elim h with ⟨hb3, h⟩ | ⟨hb3, h⟩
        · refine Run.regE hX [(8, .call (.d t4 y6)), (9, .b true), (19, .call (.d t4 y7)), (21, .b true)] 700 [1, 3, 4] [100] ⟨[(1, (.ptr 100 0)), (3, (.d t4 (decide ((List.getD x4.2.2.2.2.2.2.1 (toN x3) ((0 : Int), (0 : Int), (0 : Int), (0 : Int), (0 : Int))).2.2.2.2 < x4.2.2.2.2.2.2.2)))), (4, (.d t2 x3))], [(100, (.box (.vcons (.d t23 x4) .vnil)))]⟩ [CallPure Pg 47 [(.d t2 (List.getD x4.2.2.2.2.2.2.1 (toN x3) ((0 : Int), (0 : Int), (0 : Int), (0 : Int), (0 : Int))).1), (.d t2 (List.getD x4.2.2.2.2.2.2.1 (toN x3) ((0 : Int), (0 : Int), (0 : Int), (0 : Int), (0 : Int))).2.1), (.d t2 (List.getD x4.2.2.2.2.2.2.1 (toN x3) ((0 : Int), (0 : Int), (0 : Int), (0 : Int), (0 : Int))).2.2.1), (.d t2 (List.getD x4.2.2.2.2.2.2.1 (toN x3) ((0 : Int), (0 : Int), (0 : Int), (0 : Int), (0 : Int))).2.2.2.1)] (.d t4 y6), y6 = true, CallPure Pg 48 [(.d t2 (List.getD x4.2.2.2.2.2.2.1 (toN x3) ((0 : Int), (0 : Int), (0 : Int), (0 : Int), (0 : Int))).2.2.2.2), (.d t2 (max2i (wrapI .i64 ((wrapI .i64 (0 - x4.2.2.2.2.1)) - x4.2.2.2.2.2.1)) (-10000000 : Int)))] (.d t4 y7), y7 = true] (by kernel_rfl) ⟨(c47 h_y6), hb1, (c48 h_y7), hb3, trivial⟩ ?_
          show Run Pg 81 _ _ _
          refine Run.regE hX [] 500 [1, 3, 4] [100] ⟨[(1, (.ptr 100 0)), (3, (.d t4 (decide ((List.getD x4.2.2.2.2.2.2.1 (toN x3) ((0 : Int), (0 : Int), (0 : Int), (0 : Int), (0 : Int))).2.2.2.2 < x4.2.2.2.2.2.2.2)))), (4, (.d t2 (wrapI .i64 (x3 + (1 : Int)))))], [(100, (.box (.vcons (.d t23 x4) .vnil)))]⟩ [] (by kernel_rfl) trivial ?_
          exact ⟨m, Nat.lt_succ_self m, _, _, rfl, h⟩
        · refine Run.regE hX [(8, .call (.d t4 y6)), (9, .b true), (19, .call (.d t4 y7)), (21, .b false)] 700 [1, 3, 4] [100] ⟨[(1, (.ptr 100 0)), (3, (.d t4 false)), (4, (.d t2 x3))], [(100, (.box (.vcons (.d t23 x4) .vnil)))]⟩ [CallPure Pg 47 [(.d t2 (List.getD x4.2.2.2.2.2.2.1 (toN x3) ((0 : Int), (0 : Int), (0 : Int), (0 : Int), (0 : Int))).1), (.d t2 (List.getD x4.2.2.2.2.2.2.1 (toN x3) ((0 : Int), (0 : Int), (0 : Int), (0 : Int), (0 : Int))).2.1), (.d t2 (List.getD x4.2.2.2.2.2.2.1 (toN x3) ((0 : Int), (0 : Int), (0 : Int), (0 : Int), (0 : Int))).2.2.1), (.d t2 (List.getD x4.2.2.2.2.2.2.1 (toN x3) ((0 : Int), (0 : Int), (0 : Int), (0 : Int), (0 : Int))).2.2.2.1)] (.d t4 y6), y6 = true, CallPure Pg 48 [(.d t2 (List.getD x4.2.2.2.2.2.2.1 (toN x3) ((0 : Int), (0 : Int), (0 : Int), (0 : Int), (0 : Int))).2.2.2.2), (.d t2 (max2i (wrapI .i64 ((wrapI .i64 (0 - x4.2.2.2.2.1)) - x4.2.2.2.2.2.1)) (-10000000 : Int)))] (.d t4 y7), y7 = false] (by kernel_rfl) ⟨(c47 h_y6), hb1, (c48 h_y7), hb3, trivial⟩ ?_
          show Run Pg 81 _ _ _
          refine Run.regE hX [] 500 [1, 3, 4] [100] ⟨[(1, (.ptr 100 0)), (3, (.d t4 false)), (4, (.d t2 (wrapI .i64 (x3 + (1 : Int)))))], [(100, (.box (.vcons (.d t23 x4) .vnil)))]⟩ [] (by kernel_rfl) trivial ?_
          exact ⟨m, Nat.lt_succ_self m, _, _, rfl, h⟩
      · refine Run.regE hX [(8, .call (.d t4 y6)), (9, .b false)] 700 [1, 3, 4] [100] ⟨[(1, (.ptr 100 0)), (3, (.d t4 false)), (4, (.d t2 x3))], [(100, (.box (.vcons (.d t23 x4) .vnil)))]⟩ [CallPure Pg 47 [(.d t2 (List.getD x4.2.2.2.2.2.2.1 (toN x3) ((0 : Int), (0 : Int), (0 : Int), (0 : Int), (0 : Int))).1), (.d t2 (List.getD x4.2.2.2.2.2.2.1 (toN x3) ((0 : Int), (0 : Int), (0 : Int), (0 : Int), (0 : Int))).2.1), (.d t2 (List.getD x4.2.2.2.2.2.2.1 (toN x3) ((0 : Int), (0 : Int), (0 : Int), (0 : Int), (0 : Int))).2.2.1), (.d t2 (List.getD x4.2.2.2.2.2.2.1 (toN x3) ((0 : Int), (0 : Int), (0 : Int), (0 : Int), (0 : Int))).2.2.2.1)] (.d t4 y6), y6 = false] (by kernel_rfl) ⟨(c47 h_y6), hb1, trivial⟩ ?_
        show Run Pg 81 _ _ _
        refine Run.regE hX [] 500 [1, 3, 4] [100] ⟨[(1, (.ptr 100 0)), (3, (.d t4 false)), (4, (.d t2 (wrapI .i64 (x3 + (1 : Int)))))], [(100, (.box (.vcons (.d t23 x4) .vnil)))]⟩ [] (by kernel_rfl) trivial ?_
        exact ⟨m, Nat.lt_succ_self m, _, _, rfl, h⟩
    · replace h := bif_f h hb
      refine Run.keep (s' := ⟨[(3, (.d t4 x2))], []⟩) [3] [] (by kernel_rfl) ?_
      refine Run.exitN 0 (by kernel_rfl) ?_
      replace h := Option.some.inj h
      subst h
      exact ⟨rfl, by kernel_rfl⟩
  · refine Run.regN hX [(5, .b false)] 400 [1, 3, 4, 43] [100] ⟨[(1, (.ptr 100 0)), (3, (.d t4 x2)), (4, (.d t2 x3)), (43, (.d t4 false))], [(100, (.box (.vcons (.d t23 x4) .vnil)))]⟩ [(decide (x3 < (ofN (List.length x4.2.2.2.2.2.2.1)))) = false] (by kernel_rfl) (by kernel_rfl) ⟨hb0, trivial⟩ ?_
    refine Run.condN false (by kernel_rfl) (fun hb => (by cases hb)) (fun hb => ?_)
    refine Run.keep (s' := ⟨[(3, (.d t4 x2))], []⟩) [3] [] (by kernel_rfl) ?_
    refine Run.exitN 0 (by kernel_rfl) ?_
    replace h := Option.some.inj h
    subst h
    exact ⟨rfl, by kernel_rfl⟩

def f22_l1_post (x10 : Int × Int × Int × Int × Int × Int × (List (Int × Int × Int × Int × Int)) × Int) : (Bool) → Ex → St → Prop
  | o, x, s => x = .out 0 ∧ s = ⟨[(3, (.d t4 o))], []⟩

def f22_l1_b (x10 : Int × Int × Int × Int × Int × Int × (List (Int × Int × Int × Int × Int)) × Int) (again : Bool × Int → Option (Bool)) : Bool × Int → Option (Bool)
  | (x8, x9) =>
    (bif (decide (x9 < (ofN (List.length x10.2.2.2.2.2.2.1)))) then
      (bif x8 then
        gd (0 ≤ x9) <|
        gd (x9 < ((List.length x10.2.2.2.2.2.2.1 : Nat) : Int)) <|
        (F47 (List.getD x10.2.2.2.2.2.2.1 (toN x9) ((0 : Int), (0 : Int), (0 : Int), (0 : Int), (0 : Int))).1 (List.getD x10.2.2.2.2.2.2.1 (toN x9) ((0 : Int), (0 : Int), (0 : Int), (0 : Int), (0 : Int))).2.1 (List.getD x10.2.2.2.2.2.2.1 (toN x9) ((0 : Int), (0 : Int), (0 : Int), (0 : Int), (0 : Int))).2.2.1 (List.getD x10.2.2.2.2.2.2.1 (toN x9) ((0 : Int), (0 : Int), (0 : Int), (0 : Int), (0 : Int))).2.2.2.1).bind fun y12 =>
        (bif y12 then
          (F48 (List.getD x10.2.2.2.2.2.2.1 (toN x9) ((0 : Int), (0 : Int), (0 : Int), (0 : Int), (0 : Int))).2.2.2.2 (max2i (wrapI .i64 ((wrapI .i64 (0 - x10.2.2.2.2.1)) - x10.2.2.2.2.2.1)) (-10000000 : Int))).bind fun y13 =>
          (bif y13 then
            again ((decide ((List.getD x10.2.2.2.2.2.2.1 (toN x9) ((0 : Int), (0 : Int), (0 : Int), (0 : Int), (0 : Int))).2.2.2.2 < x10.2.2.2.2.2.2.2)), (wrapI .i64 (x9 + (1 : Int))))
          else
            again (false, (wrapI .i64 (x9 + (1 : Int)))))
        else
          again (false, (wrapI .i64 (x9 + (1 : Int)))))
      else
        some x8)
    else
      some x8)

def f22_l1 (x10 : Int × Int × Int × Int × Int × Int × (List (Int × Int × Int × Int × Int)) × Int) : Nat → Bool × Int → Option (Bool) := loopF (f22_l1_b x10)

theorem f22_l1_ok (x10 : Int × Int × Int × Int × Int × Int × (List (Int × Int × Int × Int × Int)) × Int) (k : Nat) (x8 : Bool) (x9 : Int) {out : (Bool)} (h : f22_l1 x10 k (x8, x9) = some out) : Run Pg 81 (bk1 (sq2 (sq1 (sq2 (sq2 c_22))))) ⟨[(1, (.ptr 100 0)), (3, (.d t4 x8)), (4, (.d t2 x9))], [(100, (.box (.vcons (.d t23 x10) .vnil)))]⟩ (f22_l1_post x10 out) := by
  refine Run.loopN (by kernel_rfl) (fun m s => ∃ x8 x9, s = ⟨[(1, (.ptr 100 0)), (3, (.d t4 x8)), (4, (.d t2 x9))], [(100, (.box (.vcons (.d t23 x10) .vnil)))]⟩ ∧ f22_l1 x10 m (x8, x9) = some out) ?_ k ⟨x8, x9,  rfl, h⟩
  rintro m s ⟨x8, x9,  rfl, h⟩
  cases m with
  | zero => cases h
  | succ m =>
  replace h : f22_l1_b x10 (f22_l1 x10 m) (x8, x9) = some out := h
  unfold f22_l1_b at h
  refine Run.seqN (by kernel_rfl) ?_
  rcases bif_elim h with ⟨hb0, h⟩ | ⟨hb0, h⟩
  · refine Run.regN hX [(5, .b true)] 400 [1, 3, 4, 43] [100] ⟨[(1, (.ptr 100 0)), (3, (.d t4 x8)), (4, (.d t2 x9)), (43, (.d t4 x8))], [(100, (.box (.vcons (.d t23 x10) .vnil)))]⟩ [(decide (x9 < (ofN (List.length x10.2.2.2.2.2.2.1)))) = true] (by kernel_rfl) (by kernel_rfl) ⟨hb0, trivial⟩ ?_
    refine Run.condN x8 (by kernel_rfl) (fun hb => ?_) (fun hb => ?_)
    · replace h := bif_t h hb
      refine Run.skipN (by kernel_rfl) ?_
      show Run Pg 81 _ _ _
      refine Run.seqN (by kernel_rfl) ?_
      refine Run.blockN 1 (by kernel_rfl) ?_
      obtain ⟨g_0, h⟩ := gd_elim h
      obtain ⟨g_1, h⟩ := gd_elim h
      refine Run.regN hX [] 600 [1, 4, 5] [100, 605] ⟨[(1, (.ptr 100 0)), (4, (.d t2 x9)), (5, (.ptr 605 0))], [(100, (.box (.vcons (.d t23 x10) .vnil))), (605, (.box (.vcons (.d t55 (List.getD x10.2.2.2.2.2.2.1 (toN x9) ((0 : Int), (0 : Int), (0 : Int), (0 : Int), (0 : Int)))) .vnil)))]⟩ [(0 ≤ x9), (x9 < ((List.length x10.2.2.2.2.2.2.1 : Nat) : Int))] (by kernel_rfl) (by kernel_rfl) ⟨g_0, g_1, trivial⟩ ?_
      obtain ⟨y12, h_y12, h⟩ := bnd_elim h
      rcases bif_elim h with ⟨hb1, h⟩ | ⟨hb1, h⟩
      · obtain ⟨y13, h_y13, h⟩ := bnd_elim h
        rcases bif_elim h with ⟨hb3, h⟩ | ⟨hb3, h⟩
        · refine Run.regE hX [(8, .call (.d t4 y12)), (9, .b true), (19, .call (.d t4 y13)), (21, .b true)] 700 [1, 3, 4] [100] ⟨[(1, (.ptr 100 0)), (3, (.d t4 (decide ((List.getD x10.2.2.2.2.2.2.1 (toN x9) ((0 : Int), (0 : Int), (0 : Int), (0 : Int), (0 : Int))).2.2.2.2 < x10.2.2.2.2.2.2.2)))), (4, (.d t2 x9))], [(100, (.box (.vcons (.d t23 x10) .vnil)))]⟩ [CallPure Pg 47 [(.d t2 (List.getD x10.2.2.2.2.2.2.1 (toN x9) ((0 : Int), (0 : Int), (0 : Int), (0 : Int), (0 : Int))).1), (.d t2 (List.getD x10.2.2.2.2.2.2.1 (toN x9) ((0 : Int), (0 : Int), (0 : Int), (0 : Int), (0 : Int))).2.1), (.d t2 (List.getD x10.2.2.2.2.2.2.1 (toN x9) ((0 : Int), (0 : Int), (0 : Int), (0 : Int), (0 : Int))).2.2.1), (.d t2 (List.getD x10.2.2.2.2.2.2.1 (toN x9) ((0 : Int), (0 : Int), (0 : Int), (0 : Int), (0 : Int))).2.2.2.1)] (.d t4 y12), y12 = true, CallPure Pg 48 [(.d t2 (List.getD x10.2.2.2.2.2.2.1 (toN x9) ((0 : Int), (0 : Int), (0 : Int), (0 : Int), (0 : Int))).2.2.2.2), (.d t2 (max2i (wrapI .i64 ((wrapI .i64 (0 - x10.2.2.2.2.1)) - x10.2.2.2.2.2.1)) (-10000000 : Int)))] (.d t4 y13), y13 = true] (by kernel_rfl) ⟨(c47 h_y12), hb1, (c48 h_y13), hb3, trivial⟩ ?_
          show Run Pg 81 _ _ _
          refine Run.regE hX [] 500 [1, 3, 4] [100] ⟨[(1, (.ptr 100 0)), (3, (.d t4 (decide ((List.getD x10.2.2.2.2.2.2.1 (toN x9) ((0 : Int), (0 : Int), (0 : Int), (0 : Int), (0 : Int))).2.2.2.2 < x10.2.2.2.2.2.2.2)))), (4, (.d t2 (wrapI .i64 (x9 + (1 : Int)))))], [(100, (.box (.vcons (.d t23 x10) .vnil)))]⟩ [] (by kernel_rfl) trivial ?_
          exact ⟨m, Nat.lt_succ_self m, _, _, rfl, h⟩
        · refine Run.regE hX [(8, .call (.d t4 y12)), (9, .b true), (19, .call (.d t4 y13)), (21, .b false)] 700 [1, 3, 4] [100] ⟨[(1, (.ptr 100 0)), (3, (.d t4 false)), (4, (.d t2 x9))], [(100, (.box (.vcons (.d t23 x10) .vnil)))]⟩ [CallPure Pg 47 [(.d t2 (List.getD x10.2.2.2.2.2.2.1 (toN x9) ((0 : Int), (0 : Int), (0 : Int), (0 : Int), (0 : Int))).1), (.d t2 (List.getD x10.2.2.2.2.2.2.1 (toN x9) ((0 : Int), (0 : Int), (0 : Int), (0 : Int), (0 : Int))).2.1), (.d t2 (List.getD x10.2.2.2.2.2.2.1 (toN x9) ((0 : Int), (0 : Int), (0 : Int), (0 : Int), (0 : Int))).2.2.1), (.d t2 (List.getD x10.2.2.2.2.2.2.1 (toN x9) ((0 : Int), (0 : Int), (0 : Int), (0 : Int), (0 : Int))).2.2.2.1)] (.d t4 y12), y12 = true, CallPure Pg 48 [(.d t2 (List.getD x10.2.2.2.2.2.2.1 (toN x9) ((0 : Int), (0 : Int), (0 : Int), (0 : Int), (0 : Int))).2.2.2.2), (.d t2 (max2i (wrapI .i64 ((wrapI .i64 (0 - x10.2.2.2.2.1)) - x10.2.2.2.2.2.1)) (-10000000 : Int)))] (.d t4 y13), y13 = false] (by kernel_rfl) ⟨(c47 h_y12), hb1, (c48 h_y13), hb3, trivial⟩ ?_
          show Run Pg 81 _ _ _
          refine Run.regE hX [] 500 [1, 3, 4] [100] ⟨[(1, (.ptr 100 0)), (3, (.d t4 false)), (4, (.d t2 (wrapI .i64 (x9 + (1 : Int)))))], [(100, (.box (.vcons (.d t23 x10) .vnil)))]⟩ [] (by kernel_rfl) trivial ?_
          exact ⟨m, Nat.lt_succ_self m, _, _, rfl, h⟩
      · refine Run.regE hX [(8, .call (.d t4 y12)), (9, .b false)] 700 [1, 3, 4] [100] ⟨[(1, (.ptr 100 0)), (3, (.d t4 false)), (4, (.d t2 x9))], [(100, (.box (.vcons (.d t23 x10) .vnil)))]⟩ [CallPure Pg 47 [(.d t2 (List.getD x10.2.2.2.2.2.2.1 (toN x9) ((0 : Int), (0 : Int), (0 : Int), (0 : Int), (0 : Int))).1), (.d t2 (List.getD x10.2.2.2.2.2.2.1 (toN x9) ((0 : Int), (0 : Int), (0 : Int), (0 : Int), (0 : Int))).2.1), (.d t2 (List.getD x10.2.2.2.2.2.2.1 (toN x9) ((0 : Int), (0 : Int), (0 : Int), (0 : Int), (0 : Int))).2.2.1), (.d t2 (List.getD x10.2.2.2.2.2.2.1 (toN x9) ((0 : Int), (0 : Int), (0 : Int), (0 : Int), (0 : Int))).2.2.2.1)] (.d t4 y12), y12 = false] (by kernel_rfl) ⟨(c47 h_y12), hb1, trivial⟩ ?_
        show Run Pg 81 _ _ _
        refine Run.regE hX [] 500 [1, 3, 4] [100] ⟨[(1, (.ptr 100 0)), (3, (.d t4 false)), (4, (.d t2 (wrapI .i64 (x9 + (1 : Int)))))], [(100, (.box (.vcons (.d t23 x10) .vnil)))]⟩ [] (by kernel_rfl) trivial ?_
        exact ⟨m, Nat.lt_succ_self m, _, _, rfl, h⟩
    · replace h := bif_f h hb
      refine Run.keep (s' := ⟨[(3, (.d t4 x8))], []⟩) [3] [] (by kernel_rfl) ?_
      refine Run.exitN 0 (by kernel_rfl) ?_
      replace h := Option.some.inj h
      subst h
      exact ⟨rfl, by kernel_rfl⟩
  · refine Run.regN hX [(5, .b false)] 400 [1, 3, 4, 43] [100] ⟨[(1, (.ptr 100 0)), (3, (.d t4 x8)), (4, (.d t2 x9)), (43, (.d t4 false))], [(100, (.box (.vcons (.d t23 x10) .vnil)))]⟩ [(decide (x9 < (ofN (List.length x10.2.2.2.2.2.2.1)))) = false] (by kernel_rfl) (by kernel_rfl) ⟨hb0, trivial⟩ ?_
    refine Run.condN false (by kernel_rfl) (fun hb => (by cases hb)) (fun hb => ?_)
    refine Run.keep (s' := ⟨[(3, (.d t4 x8))], []⟩) [3] [] (by kernel_rfl) ?_
    refine Run.exitN 0 (by kernel_rfl) ?_
    replace h := Option.some.inj h
    subst h
    exact ⟨rfl, by kernel_rfl⟩

def f22_l2_post (x16 : Int × Int × Int × Int × Int × Int × (List (Int × Int × Int × Int × Int)) × Int) : (Bool) → Ex → St → Prop
  | o, x, s => x = .out 0 ∧ s = ⟨[(3, (.d t4 o))], []⟩

def f22_l2_b (x16 : Int × Int × Int × Int × Int × Int × (List (Int × Int × Int × Int × Int)) × Int) (again : Bool × Int → Option (Bool)) : Bool × Int → Option (Bool)
  | (x14, x15) =>
    (bif (decide (x15 < (ofN (List.length x16.2.2.2.2.2.2.1)))) then
      (bif x14 then
        gd (0 ≤ x15) <|
        gd (x15 < ((List.length x16.2.2.2.2.2.2.1 : Nat) : Int)) <|
        (F47 (List.getD x16.2.2.2.2.2.2.1 (toN x15) ((0 : Int), (0 : Int), (0 : Int), (0 : Int), (0 : Int))).1 (List.getD x16.2.2.2.2.2.2.1 (toN x15) ((0 : Int), (0 : Int), (0 : Int), (0 : Int), (0 : Int))).2.1 (List.getD x16.2.2.2.2.2.2.1 (toN x15) ((0 : Int), (0 : Int), (0 : Int), (0 : Int), (0 : Int))).2.2.1 (List.getD x16.2.2.2.2.2.2.1 (toN x15) ((0 : Int), (0 : Int), (0 : Int), (0 : Int), (0 : Int))).2.2.2.1).bind fun y18 =>
        (bif y18 then
          (F48 (List.getD x16.2.2.2.2.2.2.1 (toN x15) ((0 : Int), (0 : Int), (0 : Int), (0 : Int), (0 : Int))).2.2.2.2 (max2i (wrapI .i64 ((wrapI .i64 (0 - x16.2.2.2.2.1)) - x16.2.2.2.2.2.1)) (-10000000 : Int))).bind fun y19 =>
          (bif y19 then
            again ((decide ((List.getD x16.2.2.2.2.2.2.1 (toN x15) ((0 : Int), (0 : Int), (0 : Int), (0 : Int), (0 : Int))).2.2.2.2 < x16.2.2.2.2.2.2.2)), (wrapI .i64 (x15 + (1 : Int))))
          else
            again (false, (wrapI .i64 (x15 + (1 : Int)))))
        else
          again (false, (wrapI .i64 (x15 + (1 : Int)))))
      else
        some x14)
    else
      some x14)

def f22_l2 (x16 : Int × Int × Int × Int × Int × Int × (List (Int × Int × Int × Int × Int)) × Int) : Nat → Bool × Int → Option (Bool) := loopF (f22_l2_b x16)

theorem f22_l2_ok (x16 : Int × Int × Int × Int × Int × Int × (List (Int × Int × Int × Int × Int)) × Int) (k : Nat) (x14 : Bool) (x15 : Int) {out : (Bool)} (h : f22_l2 x16 k (x14, x15) = some out) : Run Pg 81 (bk1 (sq2 (sq1 (sq2 (sq2 c_22))))) ⟨[(1, (.ptr 100 0)), (3, (.d t4 x14)), (4, (.d t2 x15))], [(100, (.box (.vcons (.d t23 x16) .vnil)))]⟩ (f22_l2_post x16 out) := by
  refine Run.loopN (by kernel_rfl) (fun m s => ∃ x14 x15, s = ⟨[(1, (.ptr 100 0)), (3, (.d t4 x14)), (4, (.d t2 x15))], [(100, (.box (.vcons (.d t23 x16) .vnil)))]⟩ ∧ f22_l2 x16 m (x14, x15) = some out) ?_ k ⟨x14, x15,  rfl, h⟩
  rintro m s ⟨x14, x15,  rfl, h⟩
  cases m with
  | zero => cases h
  | succ m =>
  replace h : f22_l2_b x16 (f22_l2 x16 m) (x14, x15) = some out := h
  unfold f22_l2_b at h
  refine Run.seqN (by kernel_rfl) ?_
  rcases bif_elim h with ⟨hb0, h⟩ | ⟨hb0, h⟩
  · refine Run.regN hX [(5, .b true)] 400 [1, 3, 4, 43] [100] ⟨[(1, (.ptr 100 0)), (3, (.d t4 x14)), (4, (.d t2 x15)), (43, (.d t4 x14))], [(100, (.box (.vcons (.d t23 x16) .vnil)))]⟩ [(decide (x15 < (ofN (List.length x16.2.2.2.2.2.2.1)))) = true] (by kernel_rfl) (by kernel_rfl) ⟨hb0, trivial⟩ ?_
    refine Run.condN x14 (by kernel_rfl) (fun hb => ?_) (fun hb => ?_)
    · replace h := bif_t h hb
      refine Run.skipN (by kernel_rfl) ?_
      show Run Pg 81 _ _ _
      refine Run.seqN (by kernel_rfl) ?_
      refine Run.blockN 1 (by kernel_rfl) ?_
      obtain ⟨g_0, h⟩ := gd_elim h
      obtain ⟨g_1, h⟩ := gd_elim h
      refine Run.regN hX [] 600 [1, 4, 5] [100, 605] ⟨[(1, (.ptr 100 0)), (4, (.d t2 x15)), (5, (.ptr 605 0))], [(100, (.box (.vcons (.d t23 x16) .vnil))), (605, (.box (.vcons (.d t55 (List.getD x16.2.2.2.2.2.2.1 (toN x15) ((0 : Int), (0 : Int), (0 : Int), (0 : Int), (0 : Int)))) .vnil)))]⟩ [(0 ≤ x15), (x15 < ((List.length x16.2.2.2.2.2.2.1 : Nat) : Int))] (by kernel_rfl) (by kernel_rfl) ⟨g_0, g_1, trivial⟩ ?_
      obtain ⟨y18, h_y18, h⟩ := bnd_elim h
      rcases bif_elim h with ⟨hb1, h⟩ | ⟨hb1, h⟩
      · obtain ⟨y19, h_y19, h⟩ := bnd_elim h
        rcases bif_elim h with ⟨hb3, h⟩ | ⟨hb3, h⟩
        · refine Run.regE hX [(8, .call (.d t4 y18)), (9, .b true), (19, .call (.d t4 y19)), (21, .b true)] 700 [1, 3, 4] [100] ⟨[(1, (.ptr 100 0)), (3, (.d t4 (decide ((List.getD x16.2.2.2.2.2.2.1 (toN x15) ((0 : Int), (0 : Int), (0 : Int), (0 : Int), (0 : Int))).2.2.2.2 < x16.2.2.2.2.2.2.2)))), (4, (.d t2 x15))], [(100, (.box (.vcons (.d t23 x16) .vnil)))]⟩ [CallPure Pg 47 [(.d t2 (List.getD x16.2.2.2.2.2.2.1 (toN x15) ((0 : Int), (0 : Int), (0 : Int), (0 : Int), (0 : Int))).1), (.d t2 (List.getD x16.2.2.2.2.2.2.1 (toN x15) ((0 : Int), (0 : Int), (0 : Int), (0 : Int), (0 : Int))).2.1), (.d t2 (List.getD x16.2.2.2.2.2.2.1 (toN x15) ((0 : Int), (0 : Int), (0 : Int), (0 : Int), (0 : Int))).2.2.1), (.d t2 (List.getD x16.2.2.2.2.2.2.1 (toN x15) ((0 : Int), (0 : Int), (0 : Int), (0 : Int), (0 : Int))).2.2.2.1)] (.d t4 y18), y18 = true, CallPure Pg 48 [(.d t2 (List.getD x16.2.2.2.2.2.2.1 (toN x15) ((0 : Int), (0 : Int), (0 : Int), (0 : Int), (0 : Int))).2.2.2.2), (.d t2 (max2i (wrapI .i64 ((wrapI .i64 (0 - x16.2.2.2.2.1)) - x16.2.2.2.2.2.1)) (-10000000 : Int)))] (.d t4 y19), y19 = true] (by kernel_rfl) ⟨(c47 h_y18), hb1, (c48 h_y19), hb3, trivial⟩ ?_
          show Run Pg 81 _ _ _
          refine Run.regE hX [] 500 [1, 3, 4] [100] ⟨[(1, (.ptr 100 0)), (3, (.d t4 (decide ((List.getD x16.2.2.2.2.2.2.1 (toN x15) ((0 : Int), (0 : Int), (0 : Int), (0 : Int), (0 : Int))).2.2.2.2 < x16.2.2.2.2.2.2.2)))), (4, (.d t2 (wrapI .i64 (x15 + (1 : Int)))))], [(100, (.box (.vcons (.d t23 x16) .vnil)))]⟩ [] (by kernel_rfl) trivial ?_
          exact ⟨m, Nat.lt_succ_self m, _, _, rfl, h⟩
        · refine Run.regE hX [(8, .call (.d t4 y18)), (9, .b true), (19, .call (.d t4 y19)), (21, .b false)] 700 [1, 3, 4] [100] ⟨[(1, (.ptr 100 0)), (3, (.d t4 false)), (4, (.d t2 x15))], [(100, (.box (.vcons (.d t23 x16) .vnil)))]⟩ [CallPure Pg 47 [(.d t2 (List.getD x16.2.2.2.2.2.2.1 (toN x15) ((0 : Int), (0 : Int), (0 : Int), (0 : Int), (0 : Int))).1), (.d t2 (List.getD x16.2.2.2.2.2.2.1 (toN x15) ((0 : Int), (0 : Int), (0 : Int), (0 : Int), (0 : Int))).2.1), (.d t2 (List.getD x16.2.2.2.2.2.2.1 (toN x15) ((0 : Int), (0 : Int), (0 : Int), (0 : Int), (0 : Int))).2.2.1), (.d t2 (List.getD x16.2.2.2.2.2.2.1 (toN x15) ((0 : Int), (0 : Int), (0 : Int), (0 : Int), (0 : Int))).2.2.2.1)] (.d t4 y18), y18 = true, CallPure Pg 48 [(.d t2 (List.getD x16.2.2.2.2.2.2.1 (toN x15) ((0 : Int), (0 : Int), (0 : Int), (0 : Int), (0 : Int))).2.2.2.2), (.d t2 (max2i (wrapI .i64 ((wrapI .i64 (0 - x16.2.2.2.2.1)) - x16.2.2.2.2.2.1)) (-10000000 : Int)))] (.d t4 y19), y19 = false] (by kernel_rfl) ⟨(c47 h_y18), hb1, (c48 h_y19), hb3, trivial⟩ ?_
          show Run Pg 81 _ _ _
          refine Run.regE hX [] 500 [1, 3, 4] [100] ⟨[(1, (.ptr 100 0)), (3, (.d t4 false)), (4, (.d t2 (wrapI .i64 (x15 + (1 : Int)))))], [(100, (.box (.vcons (.d t23 x16) .vnil)))]⟩ [] (by kernel_rfl) trivial ?_
          exact ⟨m, Nat.lt_succ_self m, _, _, rfl, h⟩
      · refine Run.regE hX [(8, .call (.d t4 y18)), (9, .b false)] 700 [1, 3, 4] [100] ⟨[(1, (.ptr 100 0)), (3, (.d t4 false)), (4, (.d t2 x15))], [(100, (.box (.vcons (.d t23 x16) .vnil)))]⟩ [CallPure Pg 47 [(.d t2 (List.getD x16.2.2.2.2.2.2.1 (toN x15) ((0 : Int), (0 : Int), (0 : Int), (0 : Int), (0 : Int))).1), (.d t2 (List.getD x16.2.2.2.2.2.2.1 (toN x15) ((0 : Int), (0 : Int), (0 : Int), (0 : Int), (0 : Int))).2.1), (.d t2 (List.getD x16.2.2.2.2.2.2.1 (toN x15) ((0 : Int), (0 : Int), (0 : Int), (0 : Int), (0 : Int))).2.2.1), (.d t2 (List.getD x16.2.2.2.2.2.2.1 (toN x15) ((0 : Int), (0 : Int), (0 : Int), (0 : Int), (0 : Int))).2.2.2.1)] (.d t4 y18), y18 = false] (by kernel_rfl) ⟨(c47 h_y18), hb1, trivial⟩ ?_
        show Run Pg 81 _ _ _
        refine Run.regE hX [] 500 [1, 3, 4] [100] ⟨[(1, (.ptr 100 0)), (3, (.d t4 false)), (4, (.d t2 (wrapI .i64 (x15 + (1 : Int)))))], [(100, (.box (.vcons (.d t23 x16) .vnil)))]⟩ [] (by kernel_rfl) trivial ?_
        exact ⟨m, Nat.lt_succ_self m, _, _, rfl, h⟩
    · replace h := bif_f h hb
      refine Run.keep (s' := ⟨[(3, (.d t4 x14))], []⟩) [3] [] (by kernel_rfl) ?_
      refine Run.exitN 0 (by kernel_rfl) ?_
      replace h := Option.some.inj h
      subst h
      exact ⟨rfl, by kernel_rfl⟩
  · refine Run.regN hX [(5, .b false)] 400 [1, 3, 4, 43] [100] ⟨[(1, (.ptr 100 0)), (3, (.d t4 x14)), (4, (.d t2 x15)), (43, (.d t4 false))], [(100, (.box (.vcons (.d t23 x16) .vnil)))]⟩ [(decide (x15 < (ofN (List.length x16.2.2.2.2.2.2.1)))) = false] (by kernel_rfl) (by kernel_rfl) ⟨hb0, trivial⟩ ?_
    refine Run.condN false (by kernel_rfl) (fun hb => (by cases hb)) (fun hb => ?_)
    refine Run.keep (s' := ⟨[(3, (.d t4 x14))], []⟩) [3] [] (by kernel_rfl) ?_
    refine Run.exitN 0 (by kernel_rfl) ?_
    replace h := Option.some.inj h
    subst h
    exact ⟨rfl, by kernel_rfl⟩

def f22_l3_post (x22 : Int × Int × Int × Int × Int × Int × (List (Int × Int × Int × Int × Int)) × Int) : (Bool) → Ex → St → Prop
  | o, x, s => x = .out 0 ∧ s = ⟨[(3, (.d t4 o))], []⟩

def f22_l3_b (x22 : Int × Int × Int × Int × Int × Int × (List (Int × Int × Int × Int × Int)) × Int) (again : Bool × Int → Option (Bool)) : Bool × Int → Option (Bool)
  | (x20, x21) =>
    (bif (decide (x21 < (ofN (List.length x22.2.2.2.2.2.2.1)))) then
      (bif x20 then
        gd (0 ≤ x21) <|
        gd (x21 < ((List.length x22.2.2.2.2.2.2.1 : Nat) : Int)) <|
        (F47 (List.getD x22.2.2.2.2.2.2.1 (toN x21) ((0 : Int), (0 : Int), (0 : Int), (0 : Int), (0 : Int))).1 (List.getD x22.2.2.2.2.2.2.1 (toN x21) ((0 : Int), (0 : Int), (0 : Int), (0 : Int), (0 : Int))).2.1 (List.getD x22.2.2.2.2.2.2.1 (toN x21) ((0 : Int), (0 : Int), (0 : Int), (0 : Int), (0 : Int))).2.2.1 (List.getD x22.2.2.2.2.2.2.1 (toN x21) ((0 : Int), (0 : Int), (0 : Int), (0 : Int), (0 : Int))).2.2.2.1).bind fun y24 =>
        (bif y24 then
          (F48 (List.getD x22.2.2.2.2.2.2.1 (toN x21) ((0 : Int), (0 : Int), (0 : Int), (0 : Int), (0 : Int))).2.2.2.2 (max2i (wrapI .i64 ((wrapI .i64 (0 - x22.2.2.2.2.1)) - x22.2.2.2.2.2.1)) (-10000000 : Int))).bind fun y25 =>
          (bif y25 then
            again ((decide ((List.getD x22.2.2.2.2.2.2.1 (toN x21) ((0 : Int), (0 : Int), (0 : Int), (0 : Int), (0 : Int))).2.2.2.2 < x22.2.2.2.2.2.2.2)), (wrapI .i64 (x21 + (1 : Int))))
          else
            again (false, (wrapI .i64 (x21 + (1 : Int)))))
        else
          again (false, (wrapI .i64 (x21 + (1 : Int)))))
      else
        some x20)
    else
      some x20)

def f22_l3 (x22 : Int × Int × Int × Int × Int × Int × (List (Int × Int × Int × Int × Int)) × Int) : Nat → Bool × Int → Option (Bool) := loopF (f22_l3_b x22)

theorem f22_l3_ok (x22 : Int × Int × Int × Int × Int × Int × (List (Int × Int × Int × Int × Int)) × Int) (k : Nat) (x20 : Bool) (x21 : Int) {out : (Bool)} (h : f22_l3 x22 k (x20, x21) = some out) : Run Pg 81 (bk1 (sq2 (sq1 (sq2 (sq2 c_22))))) ⟨[(1, (.ptr 100 0)), (3, (.d t4 x20)), (4, (.d t2 x21))], [(100, (.box (.vcons (.d t23 x22) .vnil)))]⟩ (f22_l3_post x22 out) := by
  refine Run.loopN (by kernel_rfl) (fun m s => ∃ x20 x21, s = ⟨[(1, (.ptr 100 0)), (3, (.d t4 x20)), (4, (.d t2 x21))], [(100, (.box (.vcons (.d t23 x22) .vnil)))]⟩ ∧ f22_l3 x22 m (x20, x21) = some out) ?_ k ⟨x20, x21,  rfl, h⟩
  rintro m s ⟨x20, x21,  rfl, h⟩
  cases m with
  | zero => cases h
  | succ m =>
  replace h : f22_l3_b x22 (f22_l3 x22 m) (x20, x21) = some out := h
  unfold f22_l3_b at h
  refine Run.seqN (by kernel_rfl) ?_
  rcases bif_elim h with ⟨hb0, h⟩ | ⟨hb0, h⟩
  · refine Run.regN hX [(5, .b true)] 400 [1, 3, 4, 43] [100] ⟨[(1, (.ptr 100 0)), (3, (.d t4 x20)), (4, (.d t2 x21)), (43, (.d t4 x20))], [(100, (.box (.vcons (.d t23 x22) .vnil)))]⟩ [(decide (x21 < (ofN (List.length x22.2.2.2.2.2.2.1)))) = true] (by kernel_rfl) (by kernel_rfl) ⟨hb0, trivial⟩ ?_
    refine Run.condN x20 (by kernel_rfl) (fun hb => ?_) (fun hb => ?_)
    · replace h := bif_t h hb
      refine Run.skipN (by kernel_rfl) ?_
      show Run Pg 81 _ _ _
      refine Run.seqN (by kernel_rfl) ?_
      refine Run.blockN 1 (by kernel_rfl) ?_
      obtain ⟨g_0, h⟩ := gd_elim h
      obtain ⟨g_1, h⟩ := gd_elim h
      refine Run.regN hX [] 600 [1, 4, 5] [100, 605] ⟨[(1, (.ptr 100 0)), (4, (.d t2 x21)), (5, (.ptr 605 0))], [(100, (.box (.vcons (.d t23 x22) .vnil))), (605, (.box (.vcons (.d t55 (List.getD x22.2.2.2.2.2.2.1 (toN x21) ((0 : Int), (0 : Int), (0 : Int), (0 : Int), (0 : Int)))) .vnil)))]⟩ [(0 ≤ x21), (x21 < ((List.length x22.2.2.2.2.2.2.1 : Nat) : Int))] (by kernel_rfl) (by kernel_rfl) ⟨g_0, g_1, trivial⟩ ?_
      obtain ⟨y24, h_y24, h⟩ := bnd_elim h
      rcases bif_elim h with ⟨hb1, h⟩ | ⟨hb1, h⟩
      · obtain ⟨y25, h_y25, h⟩ := bnd_elim h
        rcases bif_elim h with ⟨hb3, h⟩ | ⟨hb3, h⟩
        · refine Run.regE hX [(8, .call (.d t4 y24)), (9, .b true), (19, .call (.d t4 y25)), (21, .b true)] 700 [1, 3, 4] [100] ⟨[(1, (.ptr 100 0)), (3, (.d t4 (decide ((List.getD x22.2.2.2.2.2.2.1 (toN x21) ((0 : Int), (0 : Int), (0 : Int), (0 : Int), (0 : Int))).2.2.2.2 < x22.2.2.2.2.2.2.2)))), (4, (.d t2 x21))], [(100, (.box (.vcons (.d t23 x22) .vnil)))]⟩ [CallPure Pg 47 [(.d t2 (List.getD x22.2.2.2.2.2.2.1 (toN x21) ((0 : Int), (0 : Int), (0 : Int), (0 : Int), (0 : Int))).1), (.d t2 (List.getD x22.2.2.2.2.2.2.1 (toN x21) ((0 : Int), (0 : Int), (0 : Int), (0 : Int), (0 : Int))).2.1), (.d t2 (List.getD x22.2.2.2.2.2.2.1 (toN x21) ((0 : Int), (0 : Int), (0 : Int), (0 : Int), (0 : Int))).2.2.1), (.d t2 (List.getD x22.2.2.2.2.2.2.1 (toN x21) ((0 : Int), (0 : Int), (0 : Int), (0 : Int), (0 : Int))).2.2.2.1)] (.d t4 y24), y24 = true, CallPure Pg 48 [(.d t2 (List.getD x22.2.2.2.2.2.2.1 (toN x21) ((0 : Int), (0 : Int), (0 : Int), (0 : Int), (0 : Int))).2.2.2.2), (.d t2 (max2i (wrapI .i64 ((wrapI .i64 (0 - x22.2.2.2.2.1)) - x22.2.2.2.2.2.1)) (-10000000 : Int)))] (.d t4 y25), y25 = true] (by kernel_rfl) ⟨(c47 h_y24), hb1, (c48 h_y25), hb3, trivial⟩ ?_
          show Run Pg 81 _ _ _
          refine Run.regE hX [] 500 [1, 3, 4] [100] ⟨[(1, (.ptr 100 0)), (3, (.d t4 (decide ((List.getD x22.2.2.2.2.2.2.1 (toN x21) ((0 : Int), (0 : Int), (0 : Int), (0 : Int), (0 : Int))).2.2.2.2 < x22.2.2.2.2.2.2.2)))), (4, (.d t2 (wrapI .i64 (x21 + (1 : Int)))))], [(100, (.box (.vcons (.d t23 x22) .vnil)))]⟩ [] (by kernel_rfl) trivial ?_
          exact ⟨m, Nat.lt_succ_self m, _, _, rfl, h⟩
        · refine Run.regE hX [(8, .call (.d t4 y24)), (9, .b true), (19, .call (.d t4 y25)), (21, .b false)] 700 [1, 3, 4] [100] ⟨[(1, (.ptr 100 0)), (3, (.d t4 false)), (4, (.d t2 x21))], [(100, (.box (.vcons (.d t23 x22) .vnil)))]⟩ [CallPure Pg 47 [(.d t2 (List.getD x22.2.2.2.2.2.2.1 (toN x21) ((0 : Int), (0 : Int), (0 : Int), (0 : Int), (0 : Int))).1), (.d t2 (List.getD x22.2.2.2.2.2.2.1 (toN x21) ((0 : Int), (0 : Int), (0 : Int), (0 : Int), (0 : Int))).2.1), (.d t2 (List.getD x22.2.2.2.2.2.2.1 (toN x21) ((0 : Int), (0 : Int), (0 : Int), (0 : Int), (0 : Int))).2.2.1), (.d t2 (List.getD x22.2.2.2.2.2.2.1 (toN x21) ((0 : Int), (0 : Int), (0 : Int), (0 : Int), (0 : Int))).2.2.2.1)] (.d t4 y24), y24 = true, CallPure Pg 48 [(.d t2 (List.getD x22.2.2.2.2.2.2.1 (toN x21) ((0 : Int), (0 : Int), (0 : Int), (0 : Int), (0 : Int))).2.2.2.2), (.d t2 (max2i (wrapI .i64 ((wrapI .i64 (0 - x22.2.2.2.2.1)) - x22.2.2.2.2.2.1)) (-10000000 : Int)))] (.d t4 y25), y25 = false] (by kernel_rfl) ⟨(c47 h_y24), hb1, (c48 h_y25), hb3, trivial⟩ ?_
          show Run Pg 81 _ _ _
          refine Run.regE hX [] 500 [1, 3, 4] [100] ⟨[(1, (.ptr 100 0)), (3, (.d t4 false)), (4, (.d t2 (wrapI .i64 (x21 + (1 : Int)))))], [(100, (.box (.vcons (.d t23 x22) .vnil)))]⟩ [] (by kernel_rfl) trivial ?_
          exact ⟨m, Nat.lt_succ_self m, _, _, rfl, h⟩
      · refine Run.regE hX [(8, .call (.d t4 y24)), (9, .b false)] 700 [1, 3, 4] [100] ⟨[(1, (.ptr 100 0)), (3, (.d t4 false)), (4, (.d t2 x21))], [(100, (.box (.vcons (.d t23 x22) .vnil)))]⟩ [CallPure Pg 47 [(.d t2 (List.getD x22.2.2.2.2.2.2.1 (toN x21) ((0 : Int), (0 : Int), (0 : Int), (0 : Int), (0 : Int))).1), (.d t2 (List.getD x22.2.2.2.2.2.2.1 (toN x21) ((0 : Int), (0 : Int), (0 : Int), (0 : Int), (0 : Int))).2.1), (.d t2 (List.getD x22.2.2.2.2.2.2.1 (toN x21) ((0 : Int), (0 : Int), (0 : Int), (0 : Int), (0 : Int))).2.2.1), (.d t2 (List.getD x22.2.2.2.2.2.2.1 (toN x21) ((0 : Int), (0 : Int), (0 : Int), (0 : Int), (0 : Int))).2.2.2.1)] (.d t4 y24), y24 = false] (by kernel_rfl) ⟨(c47 h_y24), hb1, trivial⟩ ?_
        show Run Pg 81 _ _ _
        refine Run.regE hX [] 500 [1, 3, 4] [100] ⟨[(1, (.ptr 100 0)), (3, (.d t4 false)), (4, (.d t2 (wrapI .i64 (x21 + (1 : Int)))))], [(100, (.box (.vcons (.d t23 x22) .vnil)))]⟩ [] (by kernel_rfl) trivial ?_
        exact ⟨m, Nat.lt_succ_self m, _, _, rfl, h⟩
    · replace h := bif_f h hb
      refine Run.keep (s' := ⟨[(3, (.d t4 x20))], []⟩) [3] [] (by kernel_rfl) ?_
      refine Run.exitN 0 (by kernel_rfl) ?_
      replace h := Option.some.inj h
      subst h
      exact ⟨rfl, by kernel_rfl⟩
  · refine Run.regN hX [(5, .b false)] 400 [1, 3, 4, 43] [100] ⟨[(1, (.ptr 100 0)), (3, (.d t4 x20)), (4, (.d t2 x21)), (43, (.d t4 false))], [(100, (.box (.vcons (.d t23 x22) .vnil)))]⟩ [(decide (x21 < (ofN (List.length x22.2.2.2.2.2.2.1)))) = false] (by kernel_rfl) (by kernel_rfl) ⟨hb0, trivial⟩ ?_
    refine Run.condN false (by kernel_rfl) (fun hb => (by cases hb)) (fun hb => ?_)
    refine Run.keep (s' := ⟨[(3, (.d t4 x20))], []⟩) [3] [] (by kernel_rfl) ?_
    refine Run.exitN 0 (by kernel_rfl) ?_
    replace h := Option.some.inj h
    subst h
    exact ⟨rfl, by kernel_rfl⟩

def f22_l4_post (x28 : Int × Int × Int × Int × Int × Int × (List (Int × Int × Int × Int × Int)) × Int) : (Bool) → Ex → St → Prop
  | o, x, s => x = .out 0 ∧ s = ⟨[(3, (.d t4 o))], []⟩

def f22_l4_b (x28 : Int × Int × Int × Int × Int × Int × (List (Int × Int × Int × Int × Int)) × Int) (again : Bool × Int → Option (Bool)) : Bool × Int → Option (Bool)
  | (x26, x27) =>
    (bif (decide (x27 < (ofN (List.length x28.2.2.2.2.2.2.1)))) then
      (bif x26 then
        gd (0 ≤ x27) <|
        gd (x27 < ((List.length x28.2.2.2.2.2.2.1 : Nat) : Int)) <|
        (F47 (List.getD x28.2.2.2.2.2.2.1 (toN x27) ((0 : Int), (0 : Int), (0 : Int), (0 : Int), (0 : Int))).1 (List.getD x28.2.2.2.2.2.2.1 (toN x27) ((0 : Int), (0 : Int), (0 : Int), (0 : Int), (0 : Int))).2.1 (List.getD x28.2.2.2.2.2.2.1 (toN x27) ((0 : Int), (0 : Int), (0 : Int), (0 : Int), (0 : Int))).2.2.1 (List.getD x28.2.2.2.2.2.2.1 (toN x27) ((0 : Int), (0 : Int), (0 : Int), (0 : Int), (0 : Int))).2.2.2.1).bind fun y30 =>
        (bif y30 then
          (F48 (List.getD x28.2.2.2.2.2.2.1 (toN x27) ((0 : Int), (0 : Int), (0 : Int), (0 : Int), (0 : Int))).2.2.2.2 (max2i (wrapI .i64 ((wrapI .i64 (0 - x28.2.2.2.2.1)) - x28.2.2.2.2.2.1)) (-10000000 : Int))).bind fun y31 =>
          (bif y31 then
            again ((decide ((List.getD x28.2.2.2.2.2.2.1 (toN x27) ((0 : Int), (0 : Int), (0 : Int), (0 : Int), (0 : Int))).2.2.2.2 < x28.2.2.2.2.2.2.2)), (wrapI .i64 (x27 + (1 : Int))))
          else
            again (false, (wrapI .i64 (x27 + (1 : Int)))))
        else
          again (false, (wrapI .i64 (x27 + (1 : Int)))))
      else
        some x26)
    else
      some x26)

def f22_l4 (x28 : Int × Int × Int × Int × Int × Int × (List (Int × Int × Int × Int × Int)) × Int) : Nat → Bool × Int → Option (Bool) := loopF (f22_l4_b x28)

theorem f22_l4_ok (x28 : Int × Int × Int × Int × Int × Int × (List (Int × Int × Int × Int × Int)) × Int) (k : Nat) (x26 : Bool) (x27 : Int) {out : (Bool)} (h : f22_l4 x28 k (x26, x27) = some out) : Run Pg 81 (bk1 (sq2 (sq1 (sq2 (sq2 c_22))))) ⟨[(1, (.ptr 100 0)), (3, (.d t4 x26)), (4, (.d t2 x27))], [(100, (.box (.vcons (.d t23 x28) .vnil)))]⟩ (f22_l4_post x28 out) := by
  refine Run.loopN (by kernel_rfl) (fun m s => ∃ x26 x27, s = ⟨[(1, (.ptr 100 0)), (3, (.d t4 x26)), (4, (.d t2 x27))], [(100, (.box (.vcons (.d t23 x28) .vnil)))]⟩ ∧ f22_l4 x28 m (x26, x27) = some out) ?_ k ⟨x26, x27,  rfl, h⟩
  rintro m s ⟨x26, x27,  rfl, h⟩
  cases m with
  | zero => cases h
  | succ m =>
  replace h : f22_l4_b x28 (f22_l4 x28 m) (x26, x27) = some out := h
  unfold f22_l4_b at h
  refine Run.seqN (by kernel_rfl) ?_
  rcases bif_elim h with ⟨hb0, h⟩ | ⟨hb0, h⟩
  · refine Run.regN hX [(5, .b true)] 400 [1, 3, 4, 43] [100] ⟨[(1, (.ptr 100 0)), (3, (.d t4 x26)), (4, (.d t2 x27)), (43, (.d t4 x26))], [(100, (.box (.vcons (.d t23 x28) .vnil)))]⟩ [(decide (x27 < (ofN (List.length x28.2.2.2.2.2.2.1)))) = true] (by kernel_rfl) (by kernel_rfl) ⟨hb0, trivial⟩ ?_
    refine Run.condN x26 (by kernel_rfl) (fun hb => ?_) (fun hb => ?_)
    · replace h := bif_t h hb
      refine Run.skipN (by kernel_rfl) ?_
      show Run Pg 81 _ _ _
      refine Run.seqN (by kernel_rfl) ?_
      refine Run.blockN 1 (by kernel_rfl) ?_
      obtain ⟨g_0, h⟩ := gd_elim h
      obtain ⟨g_1, h⟩ := gd_elim h
      refine Run.regN hX [] 600 [1, 4, 5] [100, 605] ⟨[(1, (.ptr 100 0)), (4, (.d t2 x27)), (5, (.ptr 605 0))], [(100, (.box (.vcons (.d t23 x28) .vnil))), (605, (.box (.vcons (.d t55 (List.getD x28.2.2.2.2.2.2.1 (toN x27) ((0 : Int), (0 : Int), (0 : Int), (0 : Int), (0 : Int)))) .vnil)))]⟩ [(0 ≤ x27), (x27 < ((List.length x28.2.2.2.2.2.2.1 : Nat) : Int))] (by kernel_rfl) (by kernel_rfl) ⟨g_0, g_1, trivial⟩ ?_
      obtain ⟨y30, h_y30, h⟩ := bnd_elim h
      rcases bif_elim h with ⟨hb1, h⟩ | ⟨hb1, h⟩
      · obtain ⟨y31, h_y31, h⟩ := bnd_elim h
        rcases bif_elim h with ⟨hb3, h⟩ | ⟨hb3, h⟩
        · refine Run.regE hX [(8, .call (.d t4 y30)), (9, .b true), (19, .call (.d t4 y31)), (21, .b true)] 700 [1, 3, 4] [100] ⟨[(1, (.ptr 100 0)), (3, (.d t4 (decide ((List.getD x28.2.2.2.2.2.2.1 (toN x27) ((0 : Int), (0 : Int), (0 : Int), (0 : Int), (0 : Int))).2.2.2.2 < x28.2.2.2.2.2.2.2)))), (4, (.d t2 x27))], [(100, (.box (.vcons (.d t23 x28) .vnil)))]⟩ [CallPure Pg 47 [(.d t2 (List.getD x28.2.2.2.2.2.2.1 (toN x27) ((0 : Int), (0 : Int), (0 : Int), (0 : Int), (0 : Int))).1), (.d t2 (List.getD x28.2.2.2.2.2.2.1 (toN x27) ((0 : Int), (0 : Int), (0 : Int), (0 : Int), (0 : Int))).2.1), (.d t2 (List.getD x28.2.2.2.2.2.2.1 (toN x27) ((0 : Int), (0 : Int), (0 : Int), (0 : Int), (0 : Int))).2.2.1), (.d t2 (List.getD x28.2.2.2.2.2.2.1 (toN x27) ((0 : Int), (0 : Int), (0 : Int), (0 : Int), (0 : Int))).2.2.2.1)] (.d t4 y30), y30 = true, CallPure Pg 48 [(.d t2 (List.getD x28.2.2.2.2.2.2.1 (toN x27) ((0 : Int), (0 : Int), (0 : Int), (0 : Int), (0 : Int))).2.2.2.2), (.d t2 (max2i (wrapI .i64 ((wrapI .i64 (0 - x28.2.2.2.2.1)) - x28.2.2.2.2.2.1)) (-10000000 : Int)))] (.d t4 y31), y31 = true] (by kernel_rfl) ⟨(c47 h_y30), hb1, (c48 h_y31), hb3, trivial⟩ ?_
          show Run Pg 81 _ _ _
          refine Run.regE hX [] 500 [1, 3, 4] [100] ⟨[(1, (.ptr 100 0)), (3, (.d t4 (decide ((List.getD x28.2.2.2.2.2.2.1 (toN x27) ((0 : Int), (0 : Int), (0 : Int), (0 : Int), (0 : Int))).2.2.2.2 < x28.2.2.2.2.2.2.2)))), (4, (.d t2 (wrapI .i64 (x27 + (1 : Int)))))], [(100, (.box (.vcons (.d t23 x28) .vnil)))]⟩ [] (by kernel_rfl) trivial ?_
          exact ⟨m, Nat.lt_succ_self m, _, _, rfl, h⟩
        · refine Run.regE hX [(8, .call (.d t4 y30)), (9, .b true), (19, .call (.d t4 y31)), (21, .b false)] 700 [1, 3, 4] [100] ⟨[(1, (.ptr 100 0)), (3, (.d t4 false)), (4, (.d t2 x27))], [(100, (.box (.vcons (.d t23 x28) .vnil)))]⟩ [CallPure Pg 47 [(.d t2 (List.getD x28.2.2.2.2.2.2.1 (toN x27) ((0 : Int), (0 : Int), (0 : Int), (0 : Int), (0 : Int))).1), (.d t2 (List.getD x28.2.2.2.2.2.2.1 (toN x27) ((0 : Int), (0 : Int), (0 : Int), (0 : Int), (0 : Int))).2.1), (.d t2 (List.getD x28.2.2.2.2.2.2.1 (toN x27) ((0 : Int), (0 : Int), (0 : Int), (0 : Int), (0 : Int))).2.2.1), (.d t2 (List.getD x28.2.2.2.2.2.2.1 (toN x27) ((0 : Int), (0 : Int), (0 : Int), (0 : Int), (0 : Int))).2.2.2.1)] (.d t4 y30), y30 = true, CallPure Pg 48 [(.d t2 (List.getD x28.2.2.2.2.2.2.1 (toN x27) ((0 : Int), (0 : Int), (0 : Int), (0 : Int), (0 : Int))).2.2.2.2), (.d t2 (max2i (wrapI .i64 ((wrapI .i64 (0 - x28.2.2.2.2.1)) - x28.2.2.2.2.2.1)) (-10000000 : Int)))] (.d t4 y31), y31 = false] (by kernel_rfl) ⟨(c47 h_y30), hb1, (c48 h_y31), hb3, trivial⟩ ?_
          show Run Pg 81 _ _ _
          refine Run.regE hX [] 500 [1, 3, 4] [100] ⟨[(1, (.ptr 100 0)), (3, (.d t4 false)), (4, (.d t2 (wrapI .i64 (x27 + (1 : Int)))))], [(100, (.box (.vcons (.d t23 x28) .vnil)))]⟩ [] (by kernel_rfl) trivial ?_
          exact ⟨m, Nat.lt_succ_self m, _, _, rfl, h⟩
      · refine Run.regE hX [(8, .call (.d t4 y30)), (9, .b false)] 700 [1, 3, 4] [100] ⟨[(1, (.ptr 100 0)), (3, (.d t4 false)), (4, (.d t2 x27))], [(100, (.box (.vcons (.d t23 x28) .vnil)))]⟩ [CallPure Pg 47 [(.d t2 (List.getD x28.2.2.2.2.2.2.1 (toN x27) ((0 : Int), (0 : Int), (0 : Int), (0 : Int), (0 : Int))).1), (.d t2 (List.getD x28.2.2.2.2.2.2.1 (toN x27) ((0 : Int), (0 : Int), (0 : Int), (0 : Int), (0 : Int))).2.1), (.d t2 (List.getD x28.2.2.2.2.2.2.1 (toN x27) ((0 : Int), (0 : Int), (0 : Int), (0 : Int), (0 : Int))).2.2.1), (.d t2 (List.getD x28.2.2.2.2.2.2.1 (toN x27) ((0 : Int), (0 : Int), (0 : Int), (0 : Int), (0 : Int))).2.2.2.1)] (.d t4 y30), y30 = false] (by kernel_rfl) ⟨(c47 h_y30), hb1, trivial⟩ ?_
        show Run Pg 81 _ _ _
        refine Run.regE hX [] 500 [1, 3, 4] [100] ⟨[(1, (.ptr 100 0)), (3, (.d t4 false)), (4, (.d t2 (wrapI .i64 (x27 + (1 : Int)))))], [(100, (.box (.vcons (.d t23 x28) .vnil)))]⟩ [] (by kernel_rfl) trivial ?_
        exact ⟨m, Nat.lt_succ_self m, _, _, rfl, h⟩
    · replace h := bif_f h hb
      refine Run.keep (s' := ⟨[(3, (.d t4 x26))], []⟩) [3] [] (by kernel_rfl) ?_
      refine Run.exitN 0 (by kernel_rfl) ?_
      replace h := Option.some.inj h
      subst h
      exact ⟨rfl, by kernel_rfl⟩
  · refine Run.regN hX [(5, .b false)] 400 [1, 3, 4, 43] [100] ⟨[(1, (.ptr 100 0)), (3, (.d t4 x26)), (4, (.d t2 x27)), (43, (.d t4 false))], [(100, (.box (.vcons (.d t23 x28) .vnil)))]⟩ [(decide (x27 < (ofN (List.length x28.2.2.2.2.2.2.1)))) = false] (by kernel_rfl) (by kernel_rfl) ⟨hb0, trivial⟩ ?_
    refine Run.condN false (by kernel_rfl) (fun hb => (by cases hb)) (fun hb => ?_)
    refine Run.keep (s' := ⟨[(3, (.d t4 x26))], []⟩) [3] [] (by kernel_rfl) ?_
    refine Run.exitN 0 (by kernel_rfl) ?_
    replace h := Option.some.inj h
    subst h
    exact ⟨rfl, by kernel_rfl⟩

def F22 (a0 : Int × Int × Int × Int × Int × Int × (List (Int × Int × Int × Int × Int)) × Int) : Option (Int) :=
  (F47 a0.1 a0.2.1 a0.2.2.1 a0.2.2.2.1).bind fun y1 =>
  (bif y1 then
    (F48 a0.2.2.2.2.1 (1 : Int)).bind fun y2 =>
    (bif y2 then
      (F48 a0.2.2.2.2.2.1 (0 : Int)).bind fun y3 =>
      (bif y3 then
        (bif (decide ((ofN (List.length a0.2.2.2.2.2.2.1)) ≤ (50 : Int))) then
          (F48 a0.2.2.2.2.2.2.2 (1 : Int)).bind fun y4 =>
          ((f22_l0 a0 (2 + List.length a0.2.2.2.2.2.2.1) (y4, (0 : Int))).bind fun o7 =>
            (bif (!o7) then
              some (1 : Int)
            else
              some (0 : Int)))
        else
          ((f22_l1 a0 (2 + List.length a0.2.2.2.2.2.2.1) (false, (0 : Int))).bind fun o13 =>
            (bif (!o13) then
              some (1 : Int)
            else
              some (0 : Int))))
      else
        ((f22_l2 a0 (2 + List.length a0.2.2.2.2.2.2.1) (false, (0 : Int))).bind fun o19 =>
          (bif (!o19) then
            some (1 : Int)
          else
            some (0 : Int))))
    else
      ((f22_l3 a0 (2 + List.length a0.2.2.2.2.2.2.1) (false, (0 : Int))).bind fun o25 =>
        (bif (!o25) then
          some (1 : Int)
        else
          some (0 : Int))))
  else
    ((f22_l4 a0 (2 + List.length a0.2.2.2.2.2.2.1) (false, (0 : Int))).bind fun o31 =>
      (bif (!o31) then
        some (1 : Int)
      else
        some (0 : Int))))

theorem c22 {a0 : Int × Int × Int × Int × Int × Int × (List (Int × Int × Int × Int × Int)) × Int} {r : Int} (h : F22 a0 = some r) : CallPure Pg 22 [(.d t23 a0)] (.d t2 r) := by
  refine callPureN hX c_22 81 [.tmp 2] [32] Go.Proofs.Try.func22 (by kernel_rfl) (by kernel_rfl) (by kernel_rfl) (Nat.le_of_ble_eq_true rfl) rfl rfl ?_
  show Run Pg 81 c_22 ⟨[(0, (.d t23 a0))], []⟩ (fin22 r)
  unfold F22 at h
  refine Run.regN hX [] 100 [1] [100] ⟨[(1, (.ptr 100 0))], [(100, (.box (.vcons (.d t23 a0) .vnil)))]⟩ [] (by kernel_rfl) (by kernel_rfl) trivial ?_
  obtain ⟨y1, h_y1, h⟩ := bnd_elim h
  rcases bif_elim h with ⟨hb1, h⟩ | ⟨hb1, h⟩
  · obtain ⟨y2, h_y2, h⟩ := bnd_elim h
    rcases bif_elim h with ⟨hb3, h⟩ | ⟨hb3, h⟩
    · obtain ⟨y3, h_y3, h⟩ := bnd_elim h
      rcases bif_elim h with ⟨hb5, h⟩ | ⟨hb5, h⟩
      · rcases bif_elim h with ⟨hb6, h⟩ | ⟨hb6, h⟩
        · obtain ⟨y4, h_y4, h⟩ := bnd_elim h
          refine Run.regN hX [(8, .call (.d t4 y1)), (9, .b true), (12, .call (.d t4 y2)), (14, .b true), (17, .call (.d t4 y3)), (19, .b true), (25, .b true), (28, .call (.d t4 y4))] 200 [1, 3] [100] ⟨[(1, (.ptr 100 0)), (3, (.d t4 y4))], [(100, (.box (.vcons (.d t23 a0) .vnil)))]⟩ [CallPure Pg 47 [(.d t2 a0.1), (.d t2 a0.2.1), (.d t2 a0.2.2.1), (.d t2 a0.2.2.2.1)] (.d t4 y1), y1 = true, CallPure Pg 48 [(.d t2 a0.2.2.2.2.1), (.d t2 (1 : Int))] (.d t4 y2), y2 = true, CallPure Pg 48 [(.d t2 a0.2.2.2.2.2.1), (.d t2 (0 : Int))] (.d t4 y3), y3 = true, (decide ((ofN (List.length a0.2.2.2.2.2.2.1)) ≤ (50 : Int))) = true, CallPure Pg 48 [(.d t2 a0.2.2.2.2.2.2.2), (.d t2 (1 : Int))] (.d t4 y4)] (by kernel_rfl) (by kernel_rfl) ⟨(c47 h_y1), hb1, (c48 h_y2), hb3, (c48 h_y3), hb5, hb6, (c48 h_y4), trivial⟩ ?_
          refine Run.seqN (by kernel_rfl) ?_
          refine Run.regN hX [] 300 [1, 3, 4] [100] ⟨[(1, (.ptr 100 0)), (3, (.d t4 y4)), (4, (.d t2 (0 : Int)))], [(100, (.box (.vcons (.d t23 a0) .vnil)))]⟩ [] (by kernel_rfl) (by kernel_rfl) trivial ?_
          refine Run.blockN 0 (by kernel_rfl) ?_
          obtain ⟨o7, h_o7, h⟩ := bnd_elim h
          refine Run.mono (f22_l0_ok a0 _ y4 (0 : Int) h_o7) ?_
          rintro x s ⟨hx, hs⟩
          subst hx
          subst hs
          show Run Pg 81 _ _ _
          refine Run.seqN (by kernel_rfl) ?_
          refine Run.regN hX [] 800 [80] [] ⟨[(80, (.d t4 (!o7)))], []⟩ [] (by kernel_rfl) (by kernel_rfl) trivial ?_
          refine Run.condN (!o7) (by kernel_rfl) (fun hb => ?_) (fun hb => ?_)
          · replace h := bif_t h hb
            refine Run.regN hX [] 900 [2] [] ⟨[(2, (.d t2 (1 : Int)))], []⟩ [] (by kernel_rfl) (by kernel_rfl) trivial ?_
            refine Run.retN (by kernel_rfl) ?_
            replace h := Option.some.inj h
            subst h
            exact ⟨[(.d t2 (1 : Int))], by kernel_rfl, by kernel_rfl⟩
          · replace h := bif_f h hb
            refine Run.skipN (by kernel_rfl) ?_
            show Run Pg 81 _ _ _
            refine Run.regN hX [] 1000 [2] [] ⟨[(2, (.d t2 (0 : Int)))], []⟩ [] (by kernel_rfl) (by kernel_rfl) trivial ?_
            refine Run.retN (by kernel_rfl) ?_
            replace h := Option.some.inj h
            subst h
            exact ⟨[(.d t2 (0 : Int))], by kernel_rfl, by kernel_rfl⟩
        · refine Run.regN hX [(8, .call (.d t4 y1)), (9, .b true), (12, .call (.d t4 y2)), (14, .b true), (17, .call (.d t4 y3)), (19, .b true), (25, .b false)] 200 [1, 3] [100] ⟨[(1, (.ptr 100 0)), (3, (.d t4 false))], [(100, (.box (.vcons (.d t23 a0) .vnil)))]⟩ [CallPure Pg 47 [(.d t2 a0.1), (.d t2 a0.2.1), (.d t2 a0.2.2.1), (.d t2 a0.2.2.2.1)] (.d t4 y1), y1 = true, CallPure Pg 48 [(.d t2 a0.2.2.2.2.1), (.d t2 (1 : Int))] (.d t4 y2), y2 = true, CallPure Pg 48 [(.d t2 a0.2.2.2.2.2.1), (.d t2 (0 : Int))] (.d t4 y3), y3 = true, (decide ((ofN (List.length a0.2.2.2.2.2.2.1)) ≤ (50 : Int))) = false] (by kernel_rfl) (by kernel_rfl) ⟨(c47 h_y1), hb1, (c48 h_y2), hb3, (c48 h_y3), hb5, hb6, trivial⟩ ?_
          refine Run.seqN (by kernel_rfl) ?_
          refine Run.regN hX [] 300 [1, 3, 4] [100] ⟨[(1, (.ptr 100 0)), (3, (.d t4 false)), (4, (.d t2 (0 : Int)))], [(100, (.box (.vcons (.d t23 a0) .vnil)))]⟩ [] (by kernel_rfl) (by kernel_rfl) trivial ?_
          refine Run.blockN 0 (by kernel_rfl) ?_
          obtain ⟨o13, h_o13, h⟩ := bnd_elim h
          refine Run.mono (f22_l1_ok a0 _ false (0 : Int) h_o13) ?_
          rintro x s ⟨hx, hs⟩
          subst hx
          subst hs
          show Run Pg 81 _ _ _
          refine Run.seqN (by kernel_rfl) ?_
          refine Run.regN hX [] 800 [80] [] ⟨[(80, (.d t4 (!o13)))], []⟩ [] (by kernel_rfl) (by kernel_rfl) trivial ?_
          refine Run.condN (!o13) (by kernel_rfl) (fun hb => ?_) (fun hb => ?_)
          · replace h := bif_t h hb
            refine Run.regN hX [] 900 [2] [] ⟨[(2, (.d t2 (1 : Int)))], []⟩ [] (by kernel_rfl) (by kernel_rfl) trivial ?_
            refine Run.retN (by kernel_rfl) ?_
            replace h := Option.some.inj h
            subst h
            exact ⟨[(.d t2 (1 : Int))], by kernel_rfl, by kernel_rfl⟩
          · replace h := bif_f h hb
            refine Run.skipN (by kernel_rfl) ?_
            show Run Pg 81 _ _ _
            refine Run.regN hX [] 1000 [2] [] ⟨[(2, (.d t2 (0 : Int)))], []⟩ [] (by kernel_rfl) (by kernel_rfl) trivial ?_
            refine Run.retN (by kernel_rfl) ?_
            replace h := Option.some.inj h
            subst h
            exact ⟨[(.d t2 (0 : Int))], by kernel_rfl, by kernel_rfl⟩
      · refine Run.regN hX [(8, .call (.d t4 y1)), (9, .b true), (12, .call (.d t4 y2)), (14, .b true), (17, .call (.d t4 y3)), (19, .b false)] 200 [1, 3] [100] ⟨[(1, (.ptr 100 0)), (3, (.d t4 false))], [(100, (.box (.vcons (.d t23 a0) .vnil)))]⟩ [CallPure Pg 47 [(.d t2 a0.1), (.d t2 a0.2.1), (.d t2 a0.2.2.1), (.d t2 a0.2.2.2.1)] (.d t4 y1), y1 = true, CallPure Pg 48 [(.d t2 a0.2.2.2.2.1), (.d t2 (1 : Int))] (.d t4 y2), y2 = true, CallPure Pg 48 [(.d t2 a0.2.2.2.2.2.1), (.d t2 (0 : Int))] (.d t4 y3), y3 = false] (by kernel_rfl) (by kernel_rfl) ⟨(c47 h_y1), hb1, (c48 h_y2), hb3, (c48 h_y3), hb5, trivial⟩ ?_
        refine Run.seqN (by kernel_rfl) ?_
        refine Run.regN hX [] 300 [1, 3, 4] [100] ⟨[(1, (.ptr 100 0)), (3, (.d t4 false)), (4, (.d t2 (0 : Int)))], [(100, (.box (.vcons (.d t23 a0) .vnil)))]⟩ [] (by kernel_rfl) (by kernel_rfl) trivial ?_
        refine Run.blockN 0 (by kernel_rfl) ?_
        obtain ⟨o19, h_o19, h⟩ := bnd_elim h
        refine Run.mono (f22_l2_ok a0 _ false (0 : Int) h_o19) ?_
        rintro x s ⟨hx, hs⟩
        subst hx
        subst hs
        show Run Pg 81 _ _ _
        refine Run.seqN (by kernel_rfl) ?_
        refine Run.regN hX [] 800 [80] [] ⟨[(80, (.d t4 (!o19)))], []⟩ [] (by kernel_rfl) (by kernel_rfl) trivial ?_
        refine Run.condN (!o19) (by kernel_rfl) (fun hb => ?_) (fun hb => ?_)
        · replace h := bif_t h hb
          refine Run.regN hX [] 900 [2] [] ⟨[(2, (.d t2 (1 : Int)))], []⟩ [] (by kernel_rfl) (by kernel_rfl) trivial ?_
          refine Run.retN (by kernel_rfl) ?_
          replace h := Option.some.inj h
          subst h
          exact ⟨[(.d t2 (1 : Int))], by kernel_rfl, by kernel_rfl⟩
        · replace h := bif_f h hb
          refine Run.skipN (by kernel_rfl) ?_
          show Run Pg 81 _ _ _
          refine Run.regN hX [] 1000 [2] [] ⟨[(2, (.d t2 (0 : Int)))], []⟩ [] (by kernel_rfl) (by kernel_rfl) trivial ?_
          refine Run.retN (by kernel_rfl) ?_
          replace h := Option.some.inj h
          subst h
          exact ⟨[(.d t2 (0 : Int))], by kernel_rfl, by kernel_rfl⟩
    · refine Run.regN hX [(8, .call (.d t4 y1)), (9, .b true), (12, .call (.d t4 y2)), (14, .b false)] 200 [1, 3] [100] ⟨[(1, (.ptr 100 0)), (3, (.d t4 false))], [(100, (.box (.vcons (.d t23 a0) .vnil)))]⟩ [CallPure Pg 47 [(.d t2 a0.1), (.d t2 a0.2.1), (.d t2 a0.2.2.1), (.d t2 a0.2.2.2.1)] (.d t4 y1), y1 = true, CallPure Pg 48 [(.d t2 a0.2.2.2.2.1), (.d t2 (1 : Int))] (.d t4 y2), y2 = false] (by kernel_rfl) (by kernel_rfl) ⟨(c47 h_y1), hb1, (c48 h_y2), hb3, trivial⟩ ?_
      refine Run.seqN (by kernel_rfl) ?_
      refine Run.regN hX [] 300 [1, 3, 4] [100] ⟨[(1, (.ptr 100 0)), (3, (.d t4 false)), (4, (.d t2 (0 : Int)))], [(100, (.box (.vcons (.d t23 a0) .vnil)))]⟩ [] (by kernel_rfl) (by kernel_rfl) trivial ?_
      refine Run.blockN 0 (by kernel_rfl) ?_
      obtain ⟨o25, h_o25, h⟩ := bnd_elim h
      refine Run.mono (f22_l3_ok a0 _ false (0 : Int) h_o25) ?_
      rintro x s ⟨hx, hs⟩
      subst hx
      subst hs
      show Run Pg 81 _ _ _
      refine Run.seqN (by kernel_rfl) ?_
      refine Run.regN hX [] 800 [80] [] ⟨[(80, (.d t4 (!o25)))], []⟩ [] (by kernel_rfl) (by kernel_rfl) trivial ?_
      refine Run.condN (!o25) (by kernel_rfl) (fun hb => ?_) (fun hb => ?_)
      · replace h := bif_t h hb
        refine Run.regN hX [] 900 [2] [] ⟨[(2, (.d t2 (1 : Int)))], []⟩ [] (by kernel_rfl) (by kernel_rfl) trivial ?_
        refine Run.retN (by kernel_rfl) ?_
        replace h := Option.some.inj h
        subst h
        exact ⟨[(.d t2 (1 : Int))], by kernel_rfl, by kernel_rfl⟩
      · replace h := bif_f h hb
        refine Run.skipN (by kernel_rfl) ?_
        show Run Pg 81 _ _ _
        refine Run.regN hX [] 1000 [2] [] ⟨[(2, (.d t2 (0 : Int)))], []⟩ [] (by kernel_rfl) (by kernel_rfl) trivial ?_
        refine Run.retN (by kernel_rfl) ?_
        replace h := Option.some.inj h
        subst h
        exact ⟨[(.d t2 (0 : Int))], by kernel_rfl, by kernel_rfl⟩
  · refine Run.regN hX [(8, .call (.d t4 y1)), (9, .b false)] 200 [1, 3] [100] ⟨[(1, (.ptr 100 0)), (3, (.d t4 false))], [(100, (.box (.vcons (.d t23 a0) .vnil)))]⟩ [CallPure Pg 47 [(.d t2 a0.1), (.d t2 a0.2.1), (.d t2 a0.2.2.1), (.d t2 a0.2.2.2.1)] (.d t4 y1), y1 = false] (by kernel_rfl) (by kernel_rfl) ⟨(c47 h_y1), hb1, trivial⟩ ?_
    refine Run.seqN (by kernel_rfl) ?_
    refine Run.regN hX [] 300 [1, 3, 4] [100] ⟨[(1, (.ptr 100 0)), (3, (.d t4 false)), (4, (.d t2 (0 : Int)))], [(100, (.box (.vcons (.d t23 a0) .vnil)))]⟩ [] (by kernel_rfl) (by kernel_rfl) trivial ?_
    refine Run.blockN 0 (by kernel_rfl) ?_
    obtain ⟨o31, h_o31, h⟩ := bnd_elim h
    refine Run.mono (f22_l4_ok a0 _ false (0 : Int) h_o31) ?_
    rintro x s ⟨hx, hs⟩
    subst hx
    subst hs
    show Run Pg 81 _ _ _
    refine Run.seqN (by kernel_rfl) ?_
    refine Run.regN hX [] 800 [80] [] ⟨[(80, (.d t4 (!o31)))], []⟩ [] (by kernel_rfl) (by kernel_rfl) trivial ?_
    refine Run.condN (!o31) (by kernel_rfl) (fun hb => ?_) (fun hb => ?_)
    · replace h := bif_t h hb
      refine Run.regN hX [] 900 [2] [] ⟨[(2, (.d t2 (1 : Int)))], []⟩ [] (by kernel_rfl) (by kernel_rfl) trivial ?_
      refine Run.retN (by kernel_rfl) ?_
      replace h := Option.some.inj h
      subst h
      exact ⟨[(.d t2 (1 : Int))], by kernel_rfl, by kernel_rfl⟩
    · replace h := bif_f h hb
      refine Run.skipN (by kernel_rfl) ?_
      show Run Pg 81 _ _ _
      refine Run.regN hX [] 1000 [2] [] ⟨[(2, (.d t2 (0 : Int)))], []⟩ [] (by kernel_rfl) (by kernel_rfl) trivial ?_
      refine Run.retN (by kernel_rfl) ?_
      replace h := Option.some.inj h
      subst h
      exact ⟨[(.d t2 (0 : Int))], by kernel_rfl, by kernel_rfl⟩

/-! ## f15 -/

noncomputable def c_15 : Code := body0 Go.Proofs.Try.f15

def fin15 (r : (List (Int × Int × Int × Int × Int))) : Ex → St → Prop := endK X0 [.tmp 6] [22] (.d t22 r)

def f15_c1_post (x14 : Int) (x15 : Int) (x16 : Int) (x17 : Bool) (x18 : Int × Int × Int × Int × Int × Int × (List (Int × Int × Int × Int × Int)) × Int) (x19 : Int × Int × Int × Int × Int) (x20 : List (Int × Int × Int × Int × Int)) : ((List (Int × Int × Int × Int × Int))) → Ex → St → Prop
  | o, x, s => x = .nrm ∧ s = ⟨[(1, (.d t2 x14)), (2, (.d t2 x15)), (3, (.ptr 100 0)), (7, (.vec 90007 t55)), (8, (.d t2 x16))], [(100, (.box (.vcons (.d t23 x18) .vnil))), (90007, (.vec 56 t55 o))]⟩

def f15_c1 (x15 : Int) (x17 : Bool) (x19 : Int × Int × Int × Int × Int) (x20 : List (Int × Int × Int × Int × Int)) : Option ((List (Int × Int × Int × Int × Int))) :=
  (bif x17 then
    gd (List.length (x20 ++ ([((wrapI .i64 (x19.1 - x15)), (wrapI .i64 (x19.2.1 - x15)), (wrapI .i64 (x19.2.2.1 + x15)), (wrapI .i64 (x19.2.2.2.1 + x15)), x19.2.2.2.2)] : List (Int × Int × Int × Int × Int))) ≤ 1073741824) <|
    some (x20 ++ ([((wrapI .i64 (x19.1 - x15)), (wrapI .i64 (x19.2.1 - x15)), (wrapI .i64 (x19.2.2.1 + x15)), (wrapI .i64 (x19.2.2.2.1 + x15)), x19.2.2.2.2)] : List (Int × Int × Int × Int × Int)))
  else
    some x20)

theorem f15_c1_ok (x14 : Int) (x15 : Int) (x16 : Int) (x17 : Bool) (x18 : Int × Int × Int × Int × Int × Int × (List (Int × Int × Int × Int × Int)) × Int) (x19 : Int × Int × Int × Int × Int) (x20 : List (Int × Int × Int × Int × Int)) {out : ((List (Int × Int × Int × Int × Int)))} (h : f15_c1 x15 x17 x19 x20 = some out) : Run Pg 50 (sq2 (sq2 (bk1 (sq1 (sq2 (lp1 (bk1 (sq2 (sq1 (sq2 (sq2 c_15))))))))))) ⟨[(1, (.d t2 x14)), (2, (.d t2 x15)), (3, (.ptr 100 0)), (7, (.vec 90007 t55)), (8, (.d t2 x16)), (9, (.ptr 605 0)), (26, (.d t4 x17))], [(100, (.box (.vcons (.d t23 x18) .vnil))), (605, (.box (.vcons (.d t55 x19) .vnil))), (90007, (.vec 56 t55 x20))]⟩ (f15_c1_post x14 x15 x16 x17 x18 x19 x20 out) := by
  unfold f15_c1 at h
  refine Run.condN x17 (by kernel_rfl) (fun hb => ?_) (fun hb => ?_)
  · replace h := bif_t h hb
    obtain ⟨g_0, h⟩ := gd_elim h
    refine Run.regE hX [] 800 [1, 2, 3, 7, 8] [100, 90007] ⟨[(1, (.d t2 x14)), (2, (.d t2 x15)), (3, (.ptr 100 0)), (7, (.vec 90007 t55)), (8, (.d t2 x16))], [(100, (.box (.vcons (.d t23 x18) .vnil))), (90007, (.vec 56 t55 (x20 ++ ([((wrapI .i64 (x19.1 - x15)), (wrapI .i64 (x19.2.1 - x15)), (wrapI .i64 (x19.2.2.1 + x15)), (wrapI .i64 (x19.2.2.2.1 + x15)), x19.2.2.2.2)] : List (Int × Int × Int × Int × Int)))))]⟩ [(List.length (x20 ++ ([((wrapI .i64 (x19.1 - x15)), (wrapI .i64 (x19.2.1 - x15)), (wrapI .i64 (x19.2.2.1 + x15)), (wrapI .i64 (x19.2.2.2.1 + x15)), x19.2.2.2.2)] : List (Int × Int × Int × Int × Int))) ≤ 1073741824)] (by kernel_rfl) ⟨g_0, trivial⟩ ?_
    replace h := Option.some.inj h
    subst h
    exact ⟨rfl, by kernel_rfl⟩
  · replace h := bif_f h hb
    refine Run.keep (s' := ⟨[(1, (.d t2 x14)), (2, (.d t2 x15)), (3, (.ptr 100 0)), (7, (.vec 90007 t55)), (8, (.d t2 x16))], [(100, (.box (.vcons (.d t23 x18) .vnil))), (90007, (.vec 56 t55 x20))]⟩) [1, 2, 3, 7, 8] [100, 90007] (by kernel_rfl) ?_
    refine Run.skipN (by kernel_rfl) ?_
    replace h := Option.some.inj h
    subst h
    exact ⟨rfl, by kernel_rfl⟩

def f15_l0_post (x1 : Int) (x2 : Int) (x4 : Int × Int × Int × Int × Int × Int × (List (Int × Int × Int × Int × Int)) × Int) : ((List (Int × Int × Int × Int × Int))) → Ex → St → Prop
  | o, x, s => x = .out 0 ∧ s = ⟨[(7, (.vec 90007 t55))], [(90007, (.vec 56 t55 o))]⟩

def f15_l0_b (x1 : Int) (x2 : Int) (x4 : Int × Int × Int × Int × Int × Int × (List (Int × Int × Int × Int × Int)) × Int) (again : Int × (List (Int × Int × Int × Int × Int)) → Option ((List (Int × Int × Int × Int × Int)))) : Int × (List (Int × Int × Int × Int × Int)) → Option ((List (Int × Int × Int × Int × Int)))
  | (x3, x5) =>
    (bif (decide (x3 < (ofN (List.length x4.2.2.2.2.2.2.1)))) then
      gd (0 ≤ x3) <|
      gd (x3 < ((List.length x4.2.2.2.2.2.2.1 : Nat) : Int)) <|
      ((f15_c1 x2 (decide (x1 < (wrapI .i64 ((List.getD x4.2.2.2.2.2.2.1 (toN x3) ((0 : Int), (0 : Int), (0 : Int), (0 : Int), (0 : Int))).2.2.2.2 + (1000 : Int))))) (List.getD x4.2.2.2.2.2.2.1 (toN x3) ((0 : Int), (0 : Int), (0 : Int), (0 : Int), (0 : Int))) x5).bind fun o21 =>
        again ((wrapI .i64 (x3 + (1 : Int))), o21))
    else
      some x5)

def f15_l0 (x1 : Int) (x2 : Int) (x4 : Int × Int × Int × Int × Int × Int × (List (Int × Int × Int × Int × Int)) × Int) : Nat → Int × (List (Int × Int × Int × Int × Int)) → Option ((List (Int × Int × Int × Int × Int))) := loopF (f15_l0_b x1 x2 x4)

theorem f15_l0_ok (x1 : Int) (x2 : Int) (x4 : Int × Int × Int × Int × Int × Int × (List (Int × Int × Int × Int × Int)) × Int) (k : Nat) (x3 : Int) (x5 : List (Int × Int × Int × Int × Int)) {out : ((List (Int × Int × Int × Int × Int)))} (h : f15_l0 x1 x2 x4 k (x3, x5) = some out) : Run Pg 50 (bk1 (sq2 (sq1 (sq2 (sq2 c_15))))) ⟨[(1, (.d t2 x1)), (2, (.d t2 x2)), (3, (.ptr 100 0)), (7, (.vec 90007 t55)), (8, (.d t2 x3))], [(100, (.box (.vcons (.d t23 x4) .vnil))), (90007, (.vec 56 t55 x5))]⟩ (f15_l0_post x1 x2 x4 out) := by
  refine Run.loopN (by kernel_rfl) (fun m s => ∃ x3 x5, s = ⟨[(1, (.d t2 x1)), (2, (.d t2 x2)), (3, (.ptr 100 0)), (7, (.vec 90007 t55)), (8, (.d t2 x3))], [(100, (.box (.vcons (.d t23 x4) .vnil))), (90007, (.vec 56 t55 x5))]⟩ ∧ f15_l0 x1 x2 x4 m (x3, x5) = some out) ?_ k ⟨x3, x5,  rfl, h⟩
  rintro m s ⟨x3, x5,  rfl, h⟩
  cases m with
  | zero => cases h
  | succ m =>
  replace h : f15_l0_b x1 x2 x4 (f15_l0 x1 x2 x4 m) (x3, x5) = some out := h
  unfold f15_l0_b at h
  refine Run.seqN (by kernel_rfl) ?_
  refine Run.regN hX [] 400 [1, 2, 3, 7, 8, 14] [100, 90007] ⟨[(1, (.d t2 x1)), (2, (.d t2 x2)), (3, (.ptr 100 0)), (7, (.vec 90007 t55)), (8, (.d t2 x3)), (14, (.d t4 (decide (x3 < (ofN (List.length x4.2.2.2.2.2.2.1))))))], [(100, (.box (.vcons (.d t23 x4) .vnil))), (90007, (.vec 56 t55 x5))]⟩ [] (by kernel_rfl) (by kernel_rfl) trivial ?_
  refine Run.condN (decide (x3 < (ofN (List.length x4.2.2.2.2.2.2.1)))) (by kernel_rfl) (fun hb => ?_) (fun hb => ?_)
  · replace h := bif_t h hb
    refine Run.skipN (by kernel_rfl) ?_
    show Run Pg 50 _ _ _
    refine Run.seqN (by kernel_rfl) ?_
    refine Run.blockN 1 (by kernel_rfl) ?_
    obtain ⟨g_0, h⟩ := gd_elim h
    obtain ⟨g_1, h⟩ := gd_elim h
    refine Run.regN hX [] 600 [1, 2, 3, 7, 8, 9] [100, 605, 90007] ⟨[(1, (.d t2 x1)), (2, (.d t2 x2)), (3, (.ptr 100 0)), (7, (.vec 90007 t55)), (8, (.d t2 x3)), (9, (.ptr 605 0))], [(100, (.box (.vcons (.d t23 x4) .vnil))), (605, (.box (.vcons (.d t55 (List.getD x4.2.2.2.2.2.2.1 (toN x3) ((0 : Int), (0 : Int), (0 : Int), (0 : Int), (0 : Int)))) .vnil))), (90007, (.vec 56 t55 x5))]⟩ [(0 ≤ x3), (x3 < ((List.length x4.2.2.2.2.2.2.1 : Nat) : Int))] (by kernel_rfl) (by kernel_rfl) ⟨g_0, g_1, trivial⟩ ?_
    refine Run.regN hX [] 700 [1, 2, 3, 7, 8, 9, 26] [100, 605, 90007] ⟨[(1, (.d t2 x1)), (2, (.d t2 x2)), (3, (.ptr 100 0)), (7, (.vec 90007 t55)), (8, (.d t2 x3)), (9, (.ptr 605 0)), (26, (.d t4 (decide (x1 < (wrapI .i64 ((List.getD x4.2.2.2.2.2.2.1 (toN x3) ((0 : Int), (0 : Int), (0 : Int), (0 : Int), (0 : Int))).2.2.2.2 + (1000 : Int)))))))], [(100, (.box (.vcons (.d t23 x4) .vnil))), (605, (.box (.vcons (.d t55 (List.getD x4.2.2.2.2.2.2.1 (toN x3) ((0 : Int), (0 : Int), (0 : Int), (0 : Int), (0 : Int)))) .vnil))), (90007, (.vec 56 t55 x5))]⟩ [] (by kernel_rfl) (by kernel_rfl) trivial ?_
    obtain ⟨o21, h_o21, h⟩ := bnd_elim h
    refine Run.mono (f15_c1_ok x1 x2 x3 (decide (x1 < (wrapI .i64 ((List.getD x4.2.2.2.2.2.2.1 (toN x3) ((0 : Int), (0 : Int), (0 : Int), (0 : Int), (0 : Int))).2.2.2.2 + (1000 : Int))))) x4 (List.getD x4.2.2.2.2.2.2.1 (toN x3) ((0 : Int), (0 : Int), (0 : Int), (0 : Int), (0 : Int))) x5 h_o21) ?_
    rintro x s ⟨hx, hs⟩
    subst hx
    subst hs
    show Run Pg 50 _ _ _
    refine Run.regE hX [] 500 [1, 2, 3, 7, 8] [100, 90007] ⟨[(1, (.d t2 x1)), (2, (.d t2 x2)), (3, (.ptr 100 0)), (7, (.vec 90007 t55)), (8, (.d t2 (wrapI .i64 (x3 + (1 : Int)))))], [(100, (.box (.vcons (.d t23 x4) .vnil))), (90007, (.vec 56 t55 o21))]⟩ [] (by kernel_rfl) trivial ?_
    exact ⟨m, Nat.lt_succ_self m, _, _, rfl, h⟩
  · replace h := bif_f h hb
    refine Run.keep (s' := ⟨[(7, (.vec 90007 t55))], [(90007, (.vec 56 t55 x5))]⟩) [7] [90007] (by kernel_rfl) ?_
    refine Run.exitN 0 (by kernel_rfl) ?_
    replace h := Option.some.inj h
    subst h
    exact ⟨rfl, by kernel_rfl⟩

def F15 (a0 : Int × Int × Int × Int × Int × Int × (List (Int × Int × Int × Int × Int)) × Int) (a1 : Int) (a2 : Int) : Option ((List (Int × Int × Int × Int × Int))) :=
  ((f15_l0 a1 a2 a0 (2 + List.length a0.2.2.2.2.2.2.1 + List.length ([] : List (Int × Int × Int × Int × Int))) ((0 : Int), ([] : List (Int × Int × Int × Int × Int)))).bind fun o22 =>
    some o22)

theorem c15 {a0 : Int × Int × Int × Int × Int × Int × (List (Int × Int × Int × Int × Int)) × Int} {a1 : Int} {a2 : Int} {r : (List (Int × Int × Int × Int × Int))} (h : F15 a0 a1 a2 = some r) : CallPure Pg 15 [(.d t23 a0), (.d t2 a1), (.d t2 a2)] (.d t22 r) := by
  refine callPureN hX c_15 50 [.tmp 6] [22] Go.Proofs.Try.func15 (by kernel_rfl) (by kernel_rfl) (by kernel_rfl) (Nat.le_of_ble_eq_true rfl) rfl rfl ?_
  show Run Pg 50 c_15 ⟨[(0, (.d t23 a0)), (1, (.d t2 a1)), (2, (.d t2 a2))], []⟩ (fin15 r)
  unfold F15 at h
  refine Run.regN hX [] 100 [1, 2, 3] [100] ⟨[(1, (.d t2 a1)), (2, (.d t2 a2)), (3, (.ptr 100 0))], [(100, (.box (.vcons (.d t23 a0) .vnil)))]⟩ [] (by kernel_rfl) (by kernel_rfl) trivial ?_
  refine Run.regN hX [] 200 [1, 2, 3, 7] [100] ⟨[(1, (.d t2 a1)), (2, (.d t2 a2)), (3, (.ptr 100 0)), (7, .nil)], [(100, (.box (.vcons (.d t23 a0) .vnil)))]⟩ [] (by kernel_rfl) (by kernel_rfl) trivial ?_
  refine Run.seqN (by kernel_rfl) ?_
  refine Run.regN hX [] 300 [1, 2, 3, 7, 8] [100] ⟨[(1, (.d t2 a1)), (2, (.d t2 a2)), (3, (.ptr 100 0)), (7, .nil), (8, (.d t2 (0 : Int)))], [(100, (.box (.vcons (.d t23 a0) .vnil)))]⟩ [] (by kernel_rfl) (by kernel_rfl) trivial ?_
  refine Run.blockN 0 (by kernel_rfl) ?_
  refine Run.name (s' := ⟨[(7, (.vec 90007 t55)), (1, (.d t2 a1)), (2, (.d t2 a2)), (3, (.ptr 100 0)), (7, .nil), (8, (.d t2 (0 : Int)))], [(90007, (.vec 56 t55 [])), (100, (.box (.vcons (.d t23 a0) .vnil)))]⟩) 7 90007 56 t55 (by kernel_rfl) ?_
  refine Run.keep (s' := ⟨[(1, (.d t2 a1)), (2, (.d t2 a2)), (3, (.ptr 100 0)), (7, (.vec 90007 t55)), (8, (.d t2 (0 : Int)))], [(100, (.box (.vcons (.d t23 a0) .vnil))), (90007, (.vec 56 t55 ([] : List (Int × Int × Int × Int × Int))))]⟩) [1, 2, 3, 7, 8] [100, 90007] (by kernel_rfl) ?_
  obtain ⟨o22, h_o22, h⟩ := bnd_elim h
  refine Run.mono (f15_l0_ok a1 a2 a0 _ (0 : Int) ([] : List (Int × Int × Int × Int × Int)) h_o22) ?_
  rintro x s ⟨hx, hs⟩
  subst hx
  subst hs
  show Run Pg 50 _ _ _
  refine Run.regN hX [] 900 [6] [90007] ⟨[(6, (.vec 90007 t55))], [(90007, (.vec 56 t55 o22))]⟩ [] (by kernel_rfl) (by kernel_rfl) trivial ?_
  refine Run.freeze (s' := ⟨[(6, (.d t22 o22))], []⟩) 90007 (by kernel_rfl) ?_
  refine Run.retN (by kernel_rfl) ?_
  replace h := Option.some.inj h
  subst h
  exact ⟨[(.d t22 o22)], by kernel_rfl, by kernel_rfl⟩

/-! ## f31 -/

noncomputable def c_31 : Code := body0 Go.Proofs.Try.f31

def fin31 (r : Bool) : Ex → St → Prop := endK X0 [.tmp 2] [4] (.d t4 r)

def F31 (a0 : Int) : Option (Bool) :=
  (bif (decide ((10000000 : Int) < a0)) then
    some true
  else
    some (decide (a0 < (-10000000 : Int))))

theorem c31 {a0 : Int} {r : Bool} (h : F31 a0 = some r) : CallPure Pg 31 [(.d t2 a0)] (.d t4 r) := by
  refine callPureN hX c_31 9 [.tmp 2] [4] Go.Proofs.Try.func31 (by kernel_rfl) (by kernel_rfl) (by kernel_rfl) (Nat.le_of_ble_eq_true rfl) rfl rfl ?_
  show Run Pg 9 c_31 ⟨[(0, (.d t2 a0))], []⟩ (fin31 r)
  unfold F31 at h
  refine Run.regN hX [] 100 [0] [] ⟨[(0, (.d t2 a0))], []⟩ [] (by kernel_rfl) (by kernel_rfl) trivial ?_
  rcases bif_elim h with ⟨hb0, h⟩ | ⟨hb0, h⟩
  · refine Run.regN hX [(2, .b true)] 200 [2] [] ⟨[(2, (.d t4 true))], []⟩ [(decide ((10000000 : Int) < a0)) = true] (by kernel_rfl) (by kernel_rfl) ⟨hb0, trivial⟩ ?_
    refine Run.retN (by kernel_rfl) ?_
    replace h := Option.some.inj h
    subst h
    exact ⟨[(.d t4 true)], by kernel_rfl, by kernel_rfl⟩
  · refine Run.regN hX [(2, .b false)] 200 [2] [] ⟨[(2, (.d t4 (decide (a0 < (-10000000 : Int)))))], []⟩ [(decide ((10000000 : Int) < a0)) = false] (by kernel_rfl) (by kernel_rfl) ⟨hb0, trivial⟩ ?_
    refine Run.retN (by kernel_rfl) ?_
    replace h := Option.some.inj h
    subst h
    exact ⟨[(.d t4 (decide (a0 < (-10000000 : Int))))], by kernel_rfl, by kernel_rfl⟩

/-! ## f30 -/

noncomputable def c_30 : Code := body0 Go.Proofs.Try.f30

def fin30 (r : Bool) : Ex → St → Prop := endK X0 [.tmp 2] [4] (.d t4 r)

def F30 (a0 : Int × Int × Int) : Option (Bool) :=
  (F31 a0.1).bind fun y1 =>
  (bif y1 then
    some true
  else
    (F31 a0.2.1).bind fun y2 =>
    (bif y2 then
      some true
    else
      (F31 a0.2.2).bind fun y3 =>
      some y3))

theorem c30 {a0 : Int × Int × Int} {r : Bool} (h : F30 a0 = some r) : CallPure Pg 30 [(.d t25 a0)] (.d t4 r) := by
  refine callPureN hX c_30 16 [.tmp 2] [4] Go.Proofs.Try.func30 (by kernel_rfl) (by kernel_rfl) (by kernel_rfl) (Nat.le_of_ble_eq_true rfl) rfl rfl ?_
  show Run Pg 16 c_30 ⟨[(0, (.d t25 a0))], []⟩ (fin30 r)
  unfold F30 at h
  refine Run.regN hX [] 100 [1] [100] ⟨[(1, (.ptr 100 0))], [(100, (.box (.vcons (.d t25 a0) .vnil)))]⟩ [] (by kernel_rfl) (by kernel_rfl) trivial ?_
  obtain ⟨y1, h_y1, h⟩ := bnd_elim h
  rcases bif_elim h with ⟨hb1, h⟩ | ⟨hb1, h⟩
  · refine Run.regN hX [(2, .call (.d t4 y1)), (3, .b true)] 200 [2] [] ⟨[(2, (.d t4 true))], []⟩ [CallPure Pg 31 [(.d t2 a0.1)] (.d t4 y1), y1 = true] (by kernel_rfl) (by kernel_rfl) ⟨(c31 h_y1), hb1, trivial⟩ ?_
    refine Run.retN (by kernel_rfl) ?_
    replace h := Option.some.inj h
    subst h
    exact ⟨[(.d t4 true)], by kernel_rfl, by kernel_rfl⟩
  · obtain ⟨y2, h_y2, h⟩ := bnd_elim h
    rcases bif_elim h with ⟨hb3, h⟩ | ⟨hb3, h⟩
    · refine Run.regN hX [(2, .call (.d t4 y1)), (3, .b false), (6, .call (.d t4 y2)), (8, .b true)] 200 [2] [] ⟨[(2, (.d t4 true))], []⟩ [CallPure Pg 31 [(.d t2 a0.1)] (.d t4 y1), y1 = false, CallPure Pg 31 [(.d t2 a0.2.1)] (.d t4 y2), y2 = true] (by kernel_rfl) (by kernel_rfl) ⟨(c31 h_y1), hb1, (c31 h_y2), hb3, trivial⟩ ?_
      refine Run.retN (by kernel_rfl) ?_
      replace h := Option.some.inj h
      subst h
      exact ⟨[(.d t4 true)], by kernel_rfl, by kernel_rfl⟩
    · obtain ⟨y3, h_y3, h⟩ := bnd_elim h
      refine Run.regN hX [(2, .call (.d t4 y1)), (3, .b false), (6, .call (.d t4 y2)), (8, .b false), (11, .call (.d t4 y3))] 200 [2] [] ⟨[(2, (.d t4 y3))], []⟩ [CallPure Pg 31 [(.d t2 a0.1)] (.d t4 y1), y1 = false, CallPure Pg 31 [(.d t2 a0.2.1)] (.d t4 y2), y2 = false, CallPure Pg 31 [(.d t2 a0.2.2)] (.d t4 y3)] (by kernel_rfl) (by kernel_rfl) ⟨(c31 h_y1), hb1, (c31 h_y2), hb3, (c31 h_y3), trivial⟩ ?_
      refine Run.retN (by kernel_rfl) ?_
      replace h := Option.some.inj h
      subst h
      exact ⟨[(.d t4 y3)], by kernel_rfl, by kernel_rfl⟩

/-! ## f33 -/

noncomputable def c_33 : Code := body0 Go.Proofs.Try.f33

def fin33 (r : (Int × Int)) : Ex → St → Prop := endK X0 [.cell 2 38] [38] (.d t28 r)

def F33 (a0 : Int × Int × Int) : Option ((Int × Int)) :=
  some (a0.1, a0.2.1)

theorem c33 {a0 : Int × Int × Int} {r : (Int × Int)} (h : F33 a0 = some r) : CallPure Pg 33 [(.d t25 a0)] (.d t28 r) := by
  refine callPureN hX c_33 8 [.cell 2 38] [38] Go.Proofs.Try.func33 (by kernel_rfl) (by kernel_rfl) (by kernel_rfl) (Nat.le_of_ble_eq_true rfl) rfl rfl ?_
  show Run Pg 8 c_33 ⟨[(0, (.d t25 a0))], []⟩ (fin33 r)
  unfold F33 at h
  refine Run.regN hX [] 100 [1, 2] [100, 101] ⟨[(1, (.ptr 100 0)), (2, (.ptr 101 0))], [(100, (.box (.vcons (.d t25 a0) .vnil))), (101, (.box (.vcons (.d t28 ((0 : Int), (0 : Int))) .vnil)))]⟩ [] (by kernel_rfl) (by kernel_rfl) trivial ?_
  refine Run.regN hX [] 200 [2] [101] ⟨[(2, (.ptr 101 0))], [(101, (.box (.vcons (.d t28 (a0.1, a0.2.1)) .vnil)))]⟩ [] (by kernel_rfl) (by kernel_rfl) trivial ?_
  refine Run.retN (by kernel_rfl) ?_
  replace h := Option.some.inj h
  subst h
  exact ⟨[(.d t28 (a0.1, a0.2.1))], by kernel_rfl, by kernel_rfl⟩

/-! ## f54 -/

noncomputable def c_54 : Code := body0 Go.Proofs.Try.f54

def fin54 (r : Bool) : Ex → St → Prop := endK X0 [.tmp 4] [4] (.d t4 r)

def F54 (a0 : Int × Int × Int × Int × Int) (a1 : Int × Int) : Option (Bool) :=
  (bif (decide (a0.1 < a1.1)) then
    (bif (decide (a1.1 < a0.2.2.1)) then
      (bif (decide (a0.2.1 < a1.2)) then
        some (decide (a1.2 < a0.2.2.2.1))
      else
        some false)
    else
      some false)
  else
    some false)

theorem c54 {a0 : Int × Int × Int × Int × Int} {a1 : Int × Int} {r : Bool} (h : F54 a0 a1 = some r) : CallPure Pg 54 [(.d t55 a0), (.d t28 a1)] (.d t4 r) := by
  refine callPureN hX c_54 31 [.tmp 4] [4] Go.Proofs.Try.func54 (by kernel_rfl) (by kernel_rfl) (by kernel_rfl) (Nat.le_of_ble_eq_true rfl) rfl rfl ?_
  show Run Pg 31 c_54 ⟨[(0, (.d t55 a0)), (1, (.d t28 a1))], []⟩ (fin54 r)
  unfold F54 at h
  refine Run.regN hX [] 100 [2, 3] [100, 101] ⟨[(2, (.ptr 100 0)), (3, (.ptr 101 0))], [(100, (.box (.vcons (.d t55 a0) .vnil))), (101, (.box (.vcons (.d t28 a1) .vnil)))]⟩ [] (by kernel_rfl) (by kernel_rfl) trivial ?_
  rcases bif_elim h with ⟨hb0, h⟩ | ⟨hb0, h⟩
  · rcases bif_elim h with ⟨hb1, h⟩ | ⟨hb1, h⟩
    · rcases bif_elim h with ⟨hb2, h⟩ | ⟨hb2, h⟩
      · refine Run.regN hX [(5, .b true), (12, .b true), (19, .b true)] 200 [4] [] ⟨[(4, (.d t4 (decide (a1.2 < a0.2.2.2.1))))], []⟩ [(decide (a0.1 < a1.1)) = true, (decide (a1.1 < a0.2.2.1)) = true, (decide (a0.2.1 < a1.2)) = true] (by kernel_rfl) (by kernel_rfl) ⟨hb0, hb1, hb2, trivial⟩ ?_
        refine Run.retN (by kernel_rfl) ?_
        replace h := Option.some.inj h
        subst h
        exact ⟨[(.d t4 (decide (a1.2 < a0.2.2.2.1)))], by kernel_rfl, by kernel_rfl⟩
      · refine Run.regN hX [(5, .b true), (12, .b true), (19, .b false)] 200 [4] [] ⟨[(4, (.d t4 false))], []⟩ [(decide (a0.1 < a1.1)) = true, (decide (a1.1 < a0.2.2.1)) = true, (decide (a0.2.1 < a1.2)) = false] (by kernel_rfl) (by kernel_rfl) ⟨hb0, hb1, hb2, trivial⟩ ?_
        refine Run.retN (by kernel_rfl) ?_
        replace h := Option.some.inj h
        subst h
        exact ⟨[(.d t4 false)], by kernel_rfl, by kernel_rfl⟩
    · refine Run.regN hX [(5, .b true), (12, .b false)] 200 [4] [] ⟨[(4, (.d t4 false))], []⟩ [(decide (a0.1 < a1.1)) = true, (decide (a1.1 < a0.2.2.1)) = false] (by kernel_rfl) (by kernel_rfl) ⟨hb0, hb1, trivial⟩ ?_
      refine Run.retN (by kernel_rfl) ?_
      replace h := Option.some.inj h
      subst h
      exact ⟨[(.d t4 false)], by kernel_rfl, by kernel_rfl⟩
  · refine Run.regN hX [(5, .b false)] 200 [4] [] ⟨[(4, (.d t4 false))], []⟩ [(decide (a0.1 < a1.1)) = false] (by kernel_rfl) (by kernel_rfl) ⟨hb0, trivial⟩ ?_
    refine Run.retN (by kernel_rfl) ?_
    replace h := Option.some.inj h
    subst h
    exact ⟨[(.d t4 false)], by kernel_rfl, by kernel_rfl⟩

/-! ## f32 -/

noncomputable def c_32 : Code := body0 Go.Proofs.Try.f32

def fin32 (r : Int) : Ex → St → Prop := endK X0 [.tmp 6] [32] (.d t2 r)

def f32_l0_post (x1 : List (Int × Int × Int × Int × Int)) (x3 : Int × Int) (x4 : Int × Int) : ((Unit) ⊕ (Int)) → Ex → St → Prop
  | .inl o, x, s => x = .out 0 ∧ s = ⟨[(0, (.d t22 x1)), (4, (.ptr 100 0)), (5, (.ptr 101 0))], [(100, (.box (.vcons (.d t28 x3) .vnil))), (101, (.box (.vcons (.d t28 x4) .vnil)))]⟩
  | .inr o, x, s => x = .ret ∧ fin32  o x s

def f32_l0_b (x1 : List (Int × Int × Int × Int × Int)) (again : Int → Option ((Unit) ⊕ (Int))) : Int → Option ((Unit) ⊕ (Int))
  | x2 =>
    (bif (decide (x2 < (ofN (List.length x1)))) then
      gd (0 ≤ x2) <|
      gd (x2 < ((List.length x1 : Nat) : Int)) <|
      gd (0 ≤ x2) <|
      gd (x2 < ((List.length x1 : Nat) : Int)) <|
      (bif (decide ((List.getD x1 (toN x2) ((0 : Int), (0 : Int), (0 : Int), (0 : Int), (0 : Int))).2.2.1 < (List.getD x1 (toN x2) ((0 : Int), (0 : Int), (0 : Int), (0 : Int), (0 : Int))).1)) then
        some (.inr (1 : Int))
      else
        gd (0 ≤ x2) <|
        gd (x2 < ((List.length x1 : Nat) : Int)) <|
        gd (0 ≤ x2) <|
        gd (x2 < ((List.length x1 : Nat) : Int)) <|
        (bif (decide ((List.getD x1 (toN x2) ((0 : Int), (0 : Int), (0 : Int), (0 : Int), (0 : Int))).2.2.2.1 < (List.getD x1 (toN x2) ((0 : Int), (0 : Int), (0 : Int), (0 : Int), (0 : Int))).2.1)) then
          some (.inr (1 : Int))
        else
          again (wrapI .i64 (x2 + (1 : Int)))))
    else
      some (.inl ()))

def f32_l0 (x1 : List (Int × Int × Int × Int × Int)) : Nat → Int → Option ((Unit) ⊕ (Int)) := loopF (f32_l0_b x1)

theorem f32_l0_ok (x1 : List (Int × Int × Int × Int × Int)) (x3 : Int × Int) (x4 : Int × Int) (k : Nat) (x2 : Int) {out : ((Unit) ⊕ (Int))} (h : f32_l0 x1 k x2 = some out) : Run Pg 117 (bk1 (sq2 (sq1 (sq2 c_32)))) ⟨[(0, (.d t22 x1)), (4, (.ptr 100 0)), (5, (.ptr 101 0)), (7, (.d t2 x2))], [(100, (.box (.vcons (.d t28 x3) .vnil))), (101, (.box (.vcons (.d t28 x4) .vnil)))]⟩ (f32_l0_post x1 x3 x4 out) := by
  refine Run.loopN (by kernel_rfl) (fun m s => ∃ x2, s = ⟨[(0, (.d t22 x1)), (4, (.ptr 100 0)), (5, (.ptr 101 0)), (7, (.d t2 x2))], [(100, (.box (.vcons (.d t28 x3) .vnil))), (101, (.box (.vcons (.d t28 x4) .vnil)))]⟩ ∧ f32_l0 x1 m x2 = some out) ?_ k ⟨x2,  rfl, h⟩
  rintro m s ⟨x2,  rfl, h⟩
  cases m with
  | zero => cases h
  | succ m =>
  replace h : f32_l0_b x1 (f32_l0 x1 m) x2 = some out := h
  unfold f32_l0_b at h
  refine Run.seqN (by kernel_rfl) ?_
  refine Run.regN hX [] 300 [0, 4, 5, 7, 13] [100, 101] ⟨[(0, (.d t22 x1)), (4, (.ptr 100 0)), (5, (.ptr 101 0)), (7, (.d t2 x2)), (13, (.d t4 (decide (x2 < (ofN (List.length x1))))))], [(100, (.box (.vcons (.d t28 x3) .vnil))), (101, (.box (.vcons (.d t28 x4) .vnil)))]⟩ [] (by kernel_rfl) (by kernel_rfl) trivial ?_
  refine Run.condN (decide (x2 < (ofN (List.length x1)))) (by kernel_rfl) (fun hb => ?_) (fun hb => ?_)
  · replace h := bif_t h hb
    refine Run.skipN (by kernel_rfl) ?_
    show Run Pg 117 _ _ _
    refine Run.seqN (by kernel_rfl) ?_
    refine Run.blockN 1 (by kernel_rfl) ?_
    obtain ⟨g_0, h⟩ := gd_elim h
    obtain ⟨g_1, h⟩ := gd_elim h
    obtain ⟨g_2, h⟩ := gd_elim h
    obtain ⟨g_3, h⟩ := gd_elim h
    rcases bif_elim h with ⟨hb4, h⟩ | ⟨hb4, h⟩
    · refine Run.regN hX [(11, .b true)] 500 [0, 4, 5, 7, 39] [100, 101] ⟨[(0, (.d t22 x1)), (4, (.ptr 100 0)), (5, (.ptr 101 0)), (7, (.d t2 x2)), (39, (.d t4 true))], [(100, (.box (.vcons (.d t28 x3) .vnil))), (101, (.box (.vcons (.d t28 x4) .vnil)))]⟩ [(0 ≤ x2), (x2 < ((List.length x1 : Nat) : Int)), (0 ≤ x2), (x2 < ((List.length x1 : Nat) : Int)), (decide ((List.getD x1 (toN x2) ((0 : Int), (0 : Int), (0 : Int), (0 : Int), (0 : Int))).2.2.1 < (List.getD x1 (toN x2) ((0 : Int), (0 : Int), (0 : Int), (0 : Int), (0 : Int))).1)) = true] (by kernel_rfl) (by kernel_rfl) ⟨g_0, g_1, g_2, g_3, hb4, trivial⟩ ?_
      refine Run.condN true (by kernel_rfl) (fun hb => ?_) (fun hb => (by cases hb))
      refine Run.regN hX [] 600 [6] [] ⟨[(6, (.d t2 (1 : Int)))], []⟩ [] (by kernel_rfl) (by kernel_rfl) trivial ?_
      refine Run.retN (by kernel_rfl) ?_
      replace h := Option.some.inj h
      subst h
      exact ⟨rfl, [(.d t2 (1 : Int))], by kernel_rfl, by kernel_rfl⟩
    · obtain ⟨g_5, h⟩ := gd_elim h
      obtain ⟨g_6, h⟩ := gd_elim h
      obtain ⟨g_7, h⟩ := gd_elim h
      obtain ⟨g_8, h⟩ := gd_elim h
      refine Run.regN hX [(11, .b false)] 500 [0, 4, 5, 7, 39] [100, 101] ⟨[(0, (.d t22 x1)), (4, (.ptr 100 0)), (5, (.ptr 101 0)), (7, (.d t2 x2)), (39, (.d t4 (decide ((List.getD x1 (toN x2) ((0 : Int), (0 : Int), (0 : Int), (0 : Int), (0 : Int))).2.2.2.1 < (List.getD x1 (toN x2) ((0 : Int), (0 : Int), (0 : Int), (0 : Int), (0 : Int))).2.1))))], [(100, (.box (.vcons (.d t28 x3) .vnil))), (101, (.box (.vcons (.d t28 x4) .vnil)))]⟩ [(0 ≤ x2), (x2 < ((List.length x1 : Nat) : Int)), (0 ≤ x2), (x2 < ((List.length x1 : Nat) : Int)), (decide ((List.getD x1 (toN x2) ((0 : Int), (0 : Int), (0 : Int), (0 : Int), (0 : Int))).2.2.1 < (List.getD x1 (toN x2) ((0 : Int), (0 : Int), (0 : Int), (0 : Int), (0 : Int))).1)) = false, (0 ≤ x2), (x2 < ((List.length x1 : Nat) : Int)), (0 ≤ x2), (x2 < ((List.length x1 : Nat) : Int))] (by kernel_rfl) (by kernel_rfl) ⟨g_0, g_1, g_2, g_3, hb4, g_5, g_6, g_7, g_8, trivial⟩ ?_
      refine Run.condN (decide ((List.getD x1 (toN x2) ((0 : Int), (0 : Int), (0 : Int), (0 : Int), (0 : Int))).2.2.2.1 < (List.getD x1 (toN x2) ((0 : Int), (0 : Int), (0 : Int), (0 : Int), (0 : Int))).2.1)) (by kernel_rfl) (fun hb => ?_) (fun hb => ?_)
      · replace h := bif_t h hb
        refine Run.regN hX [] 600 [6] [] ⟨[(6, (.d t2 (1 : Int)))], []⟩ [] (by kernel_rfl) (by kernel_rfl) trivial ?_
        refine Run.retN (by kernel_rfl) ?_
        replace h := Option.some.inj h
        subst h
        exact ⟨rfl, [(.d t2 (1 : Int))], by kernel_rfl, by kernel_rfl⟩
      · replace h := bif_f h hb
        refine Run.skipN (by kernel_rfl) ?_
        show Run Pg 117 _ _ _
        refine Run.regE hX [] 400 [0, 4, 5, 7] [100, 101] ⟨[(0, (.d t22 x1)), (4, (.ptr 100 0)), (5, (.ptr 101 0)), (7, (.d t2 (wrapI .i64 (x2 + (1 : Int)))))], [(100, (.box (.vcons (.d t28 x3) .vnil))), (101, (.box (.vcons (.d t28 x4) .vnil)))]⟩ [] (by kernel_rfl) trivial ?_
        exact ⟨m, Nat.lt_succ_self m, _, rfl, h⟩
  · replace h := bif_f h hb
    refine Run.keep (s' := ⟨[(0, (.d t22 x1)), (4, (.ptr 100 0)), (5, (.ptr 101 0))], [(100, (.box (.vcons (.d t28 x3) .vnil))), (101, (.box (.vcons (.d t28 x4) .vnil)))]⟩) [0, 4, 5] [100, 101] (by kernel_rfl) ?_
    refine Run.exitN 0 (by kernel_rfl) ?_
    replace h := Option.some.inj h
    subst h
    exact ⟨rfl, by kernel_rfl⟩

def f32_l1_post (x11 : List (Int × Int × Int × Int × Int)) (x13 : Int × Int) (x14 : Int × Int) : ((Unit) ⊕ (Int)) → Ex → St → Prop
  | .inl o, x, s => x = .out 2 ∧ s = ⟨[(0, (.d t22 x11)), (4, (.ptr 100 0)), (5, (.ptr 101 0))], [(100, (.box (.vcons (.d t28 x13) .vnil))), (101, (.box (.vcons (.d t28 x14) .vnil)))]⟩
  | .inr o, x, s => x = .ret ∧ fin32  o x s

def f32_l1_b (x11 : List (Int × Int × Int × Int × Int)) (again : Int → Option ((Unit) ⊕ (Int))) : Int → Option ((Unit) ⊕ (Int))
  | x12 =>
    (bif (decide (x12 < (ofN (List.length x11)))) then
      gd (0 ≤ x12) <|
      gd (x12 < ((List.length x11 : Nat) : Int)) <|
      (F31 (List.getD x11 (toN x12) ((0 : Int), (0 : Int), (0 : Int), (0 : Int), (0 : Int))).1).bind fun y19 =>
      (bif y19 then
        some (.inr (11 : Int))
      else
        gd (0 ≤ x12) <|
        gd (x12 < ((List.length x11 : Nat) : Int)) <|
        (F31 (List.getD x11 (toN x12) ((0 : Int), (0 : Int), (0 : Int), (0 : Int), (0 : Int))).2.1).bind fun y20 =>
        (bif y20 then
          some (.inr (11 : Int))
        else
          gd (0 ≤ x12) <|
          gd (x12 < ((List.length x11 : Nat) : Int)) <|
          (F31 (List.getD x11 (toN x12) ((0 : Int), (0 : Int), (0 : Int), (0 : Int), (0 : Int))).2.2.1).bind fun y21 =>
          (bif y21 then
            some (.inr (11 : Int))
          else
            gd (0 ≤ x12) <|
            gd (x12 < ((List.length x11 : Nat) : Int)) <|
            (F31 (List.getD x11 (toN x12) ((0 : Int), (0 : Int), (0 : Int), (0 : Int), (0 : Int))).2.2.2.1).bind fun y22 =>
            (bif y22 then
              some (.inr (11 : Int))
            else
              again (wrapI .i64 (x12 + (1 : Int)))))))
    else
      some (.inl ()))

def f32_l1 (x11 : List (Int × Int × Int × Int × Int)) : Nat → Int → Option ((Unit) ⊕ (Int)) := loopF (f32_l1_b x11)

theorem f32_l1_ok (x11 : List (Int × Int × Int × Int × Int)) (x13 : Int × Int) (x14 : Int × Int) (k : Nat) (x12 : Int) {out : ((Unit) ⊕ (Int))} (h : f32_l1 x11 k x12 = some out) : Run Pg 117 (bk1 (sq2 (sq1 (sq2 (sq2 (sq2 (sq2 c_32))))))) ⟨[(0, (.d t22 x11)), (4, (.ptr 100 0)), (5, (.ptr 101 0)), (8, (.d t2 x12))], [(100, (.box (.vcons (.d t28 x13) .vnil))), (101, (.box (.vcons (.d t28 x14) .vnil)))]⟩ (f32_l1_post x11 x13 x14 out) := by
  refine Run.loopN (by kernel_rfl) (fun m s => ∃ x12, s = ⟨[(0, (.d t22 x11)), (4, (.ptr 100 0)), (5, (.ptr 101 0)), (8, (.d t2 x12))], [(100, (.box (.vcons (.d t28 x13) .vnil))), (101, (.box (.vcons (.d t28 x14) .vnil)))]⟩ ∧ f32_l1 x11 m x12 = some out) ?_ k ⟨x12,  rfl, h⟩
  rintro m s ⟨x12,  rfl, h⟩
  cases m with
  | zero => cases h
  | succ m =>
  replace h : f32_l1_b x11 (f32_l1 x11 m) x12 = some out := h
  unfold f32_l1_b at h
  refine Run.seqN (by kernel_rfl) ?_
  refine Run.regN hX [] 1200 [0, 4, 5, 8, 64] [100, 101] ⟨[(0, (.d t22 x11)), (4, (.ptr 100 0)), (5, (.ptr 101 0)), (8, (.d t2 x12)), (64, (.d t4 (decide (x12 < (ofN (List.length x11))))))], [(100, (.box (.vcons (.d t28 x13) .vnil))), (101, (.box (.vcons (.d t28 x14) .vnil)))]⟩ [] (by kernel_rfl) (by kernel_rfl) trivial ?_
  refine Run.condN (decide (x12 < (ofN (List.length x11)))) (by kernel_rfl) (fun hb => ?_) (fun hb => ?_)
  · replace h := bif_t h hb
    refine Run.skipN (by kernel_rfl) ?_
    show Run Pg 117 _ _ _
    refine Run.seqN (by kernel_rfl) ?_
    refine Run.blockN 3 (by kernel_rfl) ?_
    obtain ⟨g_0, h⟩ := gd_elim h
    obtain ⟨g_1, h⟩ := gd_elim h
    obtain ⟨y19, h_y19, h⟩ := bnd_elim h
    rcases bif_elim h with ⟨hb3, h⟩ | ⟨hb3, h⟩
    · refine Run.regN hX [(5, .call (.d t4 y19)), (6, .b true)] 1400 [0, 4, 5, 8, 96] [100, 101] ⟨[(0, (.d t22 x11)), (4, (.ptr 100 0)), (5, (.ptr 101 0)), (8, (.d t2 x12)), (96, (.d t4 true))], [(100, (.box (.vcons (.d t28 x13) .vnil))), (101, (.box (.vcons (.d t28 x14) .vnil)))]⟩ [(0 ≤ x12), (x12 < ((List.length x11 : Nat) : Int)), CallPure Pg 31 [(.d t2 (List.getD x11 (toN x12) ((0 : Int), (0 : Int), (0 : Int), (0 : Int), (0 : Int))).1)] (.d t4 y19), y19 = true] (by kernel_rfl) (by kernel_rfl) ⟨g_0, g_1, (c31 h_y19), hb3, trivial⟩ ?_
      refine Run.condN true (by kernel_rfl) (fun hb => ?_) (fun hb => (by cases hb))
      refine Run.regN hX [] 1500 [6] [] ⟨[(6, (.d t2 (11 : Int)))], []⟩ [] (by kernel_rfl) (by kernel_rfl) trivial ?_
      refine Run.retN (by kernel_rfl) ?_
      replace h := Option.some.inj h
      subst h
      exact ⟨rfl, [(.d t2 (11 : Int))], by kernel_rfl, by kernel_rfl⟩
    · obtain ⟨g_4, h⟩ := gd_elim h
      obtain ⟨g_5, h⟩ := gd_elim h
      obtain ⟨y20, h_y20, h⟩ := bnd_elim h
      rcases bif_elim h with ⟨hb7, h⟩ | ⟨hb7, h⟩
      · refine Run.regN hX [(5, .call (.d t4 y19)), (6, .b false), (12, .call (.d t4 y20)), (14, .b true)] 1400 [0, 4, 5, 8, 96] [100, 101] ⟨[(0, (.d t22 x11)), (4, (.ptr 100 0)), (5, (.ptr 101 0)), (8, (.d t2 x12)), (96, (.d t4 true))], [(100, (.box (.vcons (.d t28 x13) .vnil))), (101, (.box (.vcons (.d t28 x14) .vnil)))]⟩ [(0 ≤ x12), (x12 < ((List.length x11 : Nat) : Int)), CallPure Pg 31 [(.d t2 (List.getD x11 (toN x12) ((0 : Int), (0 : Int), (0 : Int), (0 : Int), (0 : Int))).1)] (.d t4 y19), y19 = false, (0 ≤ x12), (x12 < ((List.length x11 : Nat) : Int)), CallPure Pg 31 [(.d t2 (List.getD x11 (toN x12) ((0 : Int), (0 : Int), (0 : Int), (0 : Int), (0 : Int))).2.1)] (.d t4 y20), y20 = true] (by kernel_rfl) (by kernel_rfl) ⟨g_0, g_1, (c31 h_y19), hb3, g_4, g_5, (c31 h_y20), hb7, trivial⟩ ?_
        refine Run.condN true (by kernel_rfl) (fun hb => ?_) (fun hb => (by cases hb))
        refine Run.regN hX [] 1500 [6] [] ⟨[(6, (.d t2 (11 : Int)))], []⟩ [] (by kernel_rfl) (by kernel_rfl) trivial ?_
        refine Run.retN (by kernel_rfl) ?_
        replace h := Option.some.inj h
        subst h
        exact ⟨rfl, [(.d t2 (11 : Int))], by kernel_rfl, by kernel_rfl⟩
      · obtain ⟨g_8, h⟩ := gd_elim h
        obtain ⟨g_9, h⟩ := gd_elim h
        obtain ⟨y21, h_y21, h⟩ := bnd_elim h
        rcases bif_elim h with ⟨hb11, h⟩ | ⟨hb11, h⟩
        · refine Run.regN hX [(5, .call (.d t4 y19)), (6, .b false), (12, .call (.d t4 y20)), (14, .b false), (20, .call (.d t4 y21)), (22, .b true)] 1400 [0, 4, 5, 8, 96] [100, 101] ⟨[(0, (.d t22 x11)), (4, (.ptr 100 0)), (5, (.ptr 101 0)), (8, (.d t2 x12)), (96, (.d t4 true))], [(100, (.box (.vcons (.d t28 x13) .vnil))), (101, (.box (.vcons (.d t28 x14) .vnil)))]⟩ [(0 ≤ x12), (x12 < ((List.length x11 : Nat) : Int)), CallPure Pg 31 [(.d t2 (List.getD x11 (toN x12) ((0 : Int), (0 : Int), (0 : Int), (0 : Int), (0 : Int))).1)] (.d t4 y19), y19 = false, (0 ≤ x12), (x12 < ((List.length x11 : Nat) : Int)), CallPure Pg 31 [(.d t2 (List.getD x11 (toN x12) ((0 : Int), (0 : Int), (0 : Int), (0 : Int), (0 : Int))).2.1)] (.d t4 y20), y20 = false, (0 ≤ x12), (x12 < ((List.length x11 : Nat) : Int)), CallPure Pg 31 [(.d t2 (List.getD x11 (toN x12) ((0 : Int), (0 : Int), (0 : Int), (0 : Int), (0 : Int))).2.2.1)] (.d t4 y21), y21 = true] (by kernel_rfl) (by kernel_rfl) ⟨g_0, g_1, (c31 h_y19), hb3, g_4, g_5, (c31 h_y20), hb7, g_8, g_9, (c31 h_y21), hb11, trivial⟩ ?_
          refine Run.condN true (by kernel_rfl) (fun hb => ?_) (fun hb => (by cases hb))
          refine Run.regN hX [] 1500 [6] [] ⟨[(6, (.d t2 (11 : Int)))], []⟩ [] (by kernel_rfl) (by kernel_rfl) trivial ?_
          refine Run.retN (by kernel_rfl) ?_
          replace h := Option.some.inj h
          subst h
          exact ⟨rfl, [(.d t2 (11 : Int))], by kernel_rfl, by kernel_rfl⟩
        · obtain ⟨g_12, h⟩ := gd_elim h
          obtain ⟨g_13, h⟩ := gd_elim h
          obtain ⟨y22, h_y22, h⟩ := bnd_elim h
          refine Run.regN hX [(5, .call (.d t4 y19)), (6, .b false), (12, .call (.d t4 y20)), (14, .b false), (20, .call (.d t4 y21)), (22, .b false), (28, .call (.d t4 y22))] 1400 [0, 4, 5, 8, 96] [100, 101] ⟨[(0, (.d t22 x11)), (4, (.ptr 100 0)), (5, (.ptr 101 0)), (8, (.d t2 x12)), (96, (.d t4 y22))], [(100, (.box (.vcons (.d t28 x13) .vnil))), (101, (.box (.vcons (.d t28 x14) .vnil)))]⟩ [(0 ≤ x12), (x12 < ((List.length x11 : Nat) : Int)), CallPure Pg 31 [(.d t2 (List.getD x11 (toN x12) ((0 : Int), (0 : Int), (0 : Int), (0 : Int), (0 : Int))).1)] (.d t4 y19), y19 = false, (0 ≤ x12), (x12 < ((List.length x11 : Nat) : Int)), CallPure Pg 31 [(.d t2 (List.getD x11 (toN x12) ((0 : Int), (0 : Int), (0 : Int), (0 : Int), (0 : Int))).2.1)] (.d t4 y20), y20 = false, (0 ≤ x12), (x12 < ((List.length x11 : Nat) : Int)), CallPure Pg 31 [(.d t2 (List.getD x11 (toN x12) ((0 : Int), (0 : Int), (0 : Int), (0 : Int), (0 : Int))).2.2.1)] (.d t4 y21), y21 = false, (0 ≤ x12), (x12 < ((List.length x11 : Nat) : Int)), CallPure Pg 31 [(.d t2 (List.getD x11 (toN x12) ((0 : Int), (0 : Int), (0 : Int), (0 : Int), (0 : Int))).2.2.2.1)] (.d t4 y22)] (by kernel_rfl) (by kernel_rfl) ⟨g_0, g_1, (c31 h_y19), hb3, g_4, g_5, (c31 h_y20), hb7, g_8, g_9, (c31 h_y21), hb11, g_12, g_13, (c31 h_y22), trivial⟩ ?_
          refine Run.condN y22 (by kernel_rfl) (fun hb => ?_) (fun hb => ?_)
          · replace h := bif_t h hb
            refine Run.regN hX [] 1500 [6] [] ⟨[(6, (.d t2 (11 : Int)))], []⟩ [] (by kernel_rfl) (by kernel_rfl) trivial ?_
            refine Run.retN (by kernel_rfl) ?_
            replace h := Option.some.inj h
            subst h
            exact ⟨rfl, [(.d t2 (11 : Int))], by kernel_rfl, by kernel_rfl⟩
          · replace h := bif_f h hb
            refine Run.skipN (by kernel_rfl) ?_
            show Run Pg 117 _ _ _
            refine Run.regE hX [] 1300 [0, 4, 5, 8] [100, 101] ⟨[(0, (.d t22 x11)), (4, (.ptr 100 0)), (5, (.ptr 101 0)), (8, (.d t2 (wrapI .i64 (x12 + (1 : Int)))))], [(100, (.box (.vcons (.d t28 x13) .vnil))), (101, (.box (.vcons (.d t28 x14) .vnil)))]⟩ [] (by kernel_rfl) trivial ?_
            exact ⟨m, Nat.lt_succ_self m, _, rfl, h⟩
  · replace h := bif_f h hb
    refine Run.keep (s' := ⟨[(0, (.d t22 x11)), (4, (.ptr 100 0)), (5, (.ptr 101 0))], [(100, (.box (.vcons (.d t28 x13) .vnil))), (101, (.box (.vcons (.d t28 x14) .vnil)))]⟩) [0, 4, 5] [100, 101] (by kernel_rfl) ?_
    refine Run.exitN 2 (by kernel_rfl) ?_
    replace h := Option.some.inj h
    subst h
    exact ⟨rfl, by kernel_rfl⟩

def f32_l2_post (x25 : List (Int × Int × Int × Int × Int)) (x27 : Int × Int) (x28 : Int × Int) : ((Unit) ⊕ (Int)) → Ex → St → Prop
  | .inl o, x, s => x = .out 4 ∧ s = ⟨[], []⟩
  | .inr o, x, s => x = .ret ∧ fin32  o x s

def f32_l2_b (x25 : List (Int × Int × Int × Int × Int)) (x27 : Int × Int) (x28 : Int × Int) (again : Int → Option ((Unit) ⊕ (Int))) : Int → Option ((Unit) ⊕ (Int))
  | x26 =>
    (bif (decide (x26 < (ofN (List.length x25)))) then
      gd (0 ≤ x26) <|
      gd (x26 < ((List.length x25 : Nat) : Int)) <|
      (F54 (List.getD x25 (toN x26) ((0 : Int), (0 : Int), (0 : Int), (0 : Int), (0 : Int))) x27).bind fun y31 =>
      (bif y31 then
        some (.inr (15 : Int))
      else
        gd (0 ≤ x26) <|
        gd (x26 < ((List.length x25 : Nat) : Int)) <|
        (F54 (List.getD x25 (toN x26) ((0 : Int), (0 : Int), (0 : Int), (0 : Int), (0 : Int))) x28).bind fun y32 =>
        (bif y32 then
          some (.inr (15 : Int))
        else
          again (wrapI .i64 (x26 + (1 : Int)))))
    else
      some (.inl ()))

def f32_l2 (x25 : List (Int × Int × Int × Int × Int)) (x27 : Int × Int) (x28 : Int × Int) : Nat → Int → Option ((Unit) ⊕ (Int)) := loopF (f32_l2_b x25 x27 x28)

theorem f32_l2_ok (x25 : List (Int × Int × Int × Int × Int)) (x27 : Int × Int) (x28 : Int × Int) (k : Nat) (x26 : Int) {out : ((Unit) ⊕ (Int))} (h : f32_l2 x25 x27 x28 k x26 = some out) : Run Pg 117 (bk1 (sq2 (sq1 (sq2 (sq2 (sq2 (sq2 (sq2 c_32)))))))) ⟨[(0, (.d t22 x25)), (4, (.ptr 100 0)), (5, (.ptr 101 0)), (9, (.d t2 x26))], [(100, (.box (.vcons (.d t28 x27) .vnil))), (101, (.box (.vcons (.d t28 x28) .vnil)))]⟩ (f32_l2_post x25 x27 x28 out) := by
  refine Run.loopN (by kernel_rfl) (fun m s => ∃ x26, s = ⟨[(0, (.d t22 x25)), (4, (.ptr 100 0)), (5, (.ptr 101 0)), (9, (.d t2 x26))], [(100, (.box (.vcons (.d t28 x27) .vnil))), (101, (.box (.vcons (.d t28 x28) .vnil)))]⟩ ∧ f32_l2 x25 x27 x28 m x26 = some out) ?_ k ⟨x26,  rfl, h⟩
  rintro m s ⟨x26,  rfl, h⟩
  cases m with
  | zero => cases h
  | succ m =>
  replace h : f32_l2_b x25 x27 x28 (f32_l2 x25 x27 x28 m) x26 = some out := h
  unfold f32_l2_b at h
  refine Run.seqN (by kernel_rfl) ?_
  refine Run.regN hX [] 1700 [0, 4, 5, 9, 100] [100, 101] ⟨[(0, (.d t22 x25)), (4, (.ptr 100 0)), (5, (.ptr 101 0)), (9, (.d t2 x26)), (100, (.d t4 (decide (x26 < (ofN (List.length x25))))))], [(100, (.box (.vcons (.d t28 x27) .vnil))), (101, (.box (.vcons (.d t28 x28) .vnil)))]⟩ [] (by kernel_rfl) (by kernel_rfl) trivial ?_
  refine Run.condN (decide (x26 < (ofN (List.length x25)))) (by kernel_rfl) (fun hb => ?_) (fun hb => ?_)
  · replace h := bif_t h hb
    refine Run.skipN (by kernel_rfl) ?_
    show Run Pg 117 _ _ _
    refine Run.seqN (by kernel_rfl) ?_
    refine Run.blockN 5 (by kernel_rfl) ?_
    obtain ⟨g_0, h⟩ := gd_elim h
    obtain ⟨g_1, h⟩ := gd_elim h
    obtain ⟨y31, h_y31, h⟩ := bnd_elim h
    rcases bif_elim h with ⟨hb3, h⟩ | ⟨hb3, h⟩
    · refine Run.regN hX [(5, .call (.d t4 y31)), (6, .b true)] 1900 [0, 4, 5, 9, 116] [100, 101] ⟨[(0, (.d t22 x25)), (4, (.ptr 100 0)), (5, (.ptr 101 0)), (9, (.d t2 x26)), (116, (.d t4 true))], [(100, (.box (.vcons (.d t28 x27) .vnil))), (101, (.box (.vcons (.d t28 x28) .vnil)))]⟩ [(0 ≤ x26), (x26 < ((List.length x25 : Nat) : Int)), CallPure Pg 54 [(.d t55 (List.getD x25 (toN x26) ((0 : Int), (0 : Int), (0 : Int), (0 : Int), (0 : Int)))), (.d t28 x27)] (.d t4 y31), y31 = true] (by kernel_rfl) (by kernel_rfl) ⟨g_0, g_1, (c54 h_y31), hb3, trivial⟩ ?_
      refine Run.condN true (by kernel_rfl) (fun hb => ?_) (fun hb => (by cases hb))
      refine Run.regN hX [] 2000 [6] [] ⟨[(6, (.d t2 (15 : Int)))], []⟩ [] (by kernel_rfl) (by kernel_rfl) trivial ?_
      refine Run.retN (by kernel_rfl) ?_
      replace h := Option.some.inj h
      subst h
      exact ⟨rfl, [(.d t2 (15 : Int))], by kernel_rfl, by kernel_rfl⟩
    · obtain ⟨g_4, h⟩ := gd_elim h
      obtain ⟨g_5, h⟩ := gd_elim h
      obtain ⟨y32, h_y32, h⟩ := bnd_elim h
      refine Run.regN hX [(5, .call (.d t4 y31)), (6, .b false), (12, .call (.d t4 y32))] 1900 [0, 4, 5, 9, 116] [100, 101] ⟨[(0, (.d t22 x25)), (4, (.ptr 100 0)), (5, (.ptr 101 0)), (9, (.d t2 x26)), (116, (.d t4 y32))], [(100, (.box (.vcons (.d t28 x27) .vnil))), (101, (.box (.vcons (.d t28 x28) .vnil)))]⟩ [(0 ≤ x26), (x26 < ((List.length x25 : Nat) : Int)), CallPure Pg 54 [(.d t55 (List.getD x25 (toN x26) ((0 : Int), (0 : Int), (0 : Int), (0 : Int), (0 : Int)))), (.d t28 x27)] (.d t4 y31), y31 = false, (0 ≤ x26), (x26 < ((List.length x25 : Nat) : Int)), CallPure Pg 54 [(.d t55 (List.getD x25 (toN x26) ((0 : Int), (0 : Int), (0 : Int), (0 : Int), (0 : Int)))), (.d t28 x28)] (.d t4 y32)] (by kernel_rfl) (by kernel_rfl) ⟨g_0, g_1, (c54 h_y31), hb3, g_4, g_5, (c54 h_y32), trivial⟩ ?_
      refine Run.condN y32 (by kernel_rfl) (fun hb => ?_) (fun hb => ?_)
      · replace h := bif_t h hb
        refine Run.regN hX [] 2000 [6] [] ⟨[(6, (.d t2 (15 : Int)))], []⟩ [] (by kernel_rfl) (by kernel_rfl) trivial ?_
        refine Run.retN (by kernel_rfl) ?_
        replace h := Option.some.inj h
        subst h
        exact ⟨rfl, [(.d t2 (15 : Int))], by kernel_rfl, by kernel_rfl⟩
      · replace h := bif_f h hb
        refine Run.skipN (by kernel_rfl) ?_
        show Run Pg 117 _ _ _
        refine Run.regE hX [] 1800 [0, 4, 5, 9] [100, 101] ⟨[(0, (.d t22 x25)), (4, (.ptr 100 0)), (5, (.ptr 101 0)), (9, (.d t2 (wrapI .i64 (x26 + (1 : Int)))))], [(100, (.box (.vcons (.d t28 x27) .vnil))), (101, (.box (.vcons (.d t28 x28) .vnil)))]⟩ [] (by kernel_rfl) trivial ?_
        exact ⟨m, Nat.lt_succ_self m, _, rfl, h⟩
  · replace h := bif_f h hb
    refine Run.keep (s' := ⟨[], []⟩) [] [] (by kernel_rfl) ?_
    refine Run.exitN 4 (by kernel_rfl) ?_
    replace h := Option.some.inj h
    subst h
    exact ⟨rfl, by kernel_rfl⟩

def F32 (a0 : List (Int × Int × Int × Int × Int)) (a1 : Int × Int) (a2 : Int × Int) : Option (Int) :=
  ((f32_l0 a0 (2 + List.length a0) (0 : Int)).bind fun o5 => match o5 with
    | .inl o6 =>
        (bif (decide ((8 : Int) < (ofN (List.length a0)))) then
          some (3 : Int)
        else
          (F31 a1.1).bind fun y7 =>
          (bif y7 then
            some (11 : Int)
          else
            (F31 a1.2).bind fun y8 =>
            (bif y8 then
              some (11 : Int)
            else
              (F31 a2.1).bind fun y9 =>
              (bif y9 then
                some (11 : Int)
              else
                (F31 a2.2).bind fun y10 =>
                (bif y10 then
                  some (11 : Int)
                else
                  ((f32_l1 a0 (2 + List.length a0) (0 : Int)).bind fun o23 => match o23 with
                    | .inl o24 =>
                        ((f32_l2 a0 a1 a2 (2 + List.length a0) (0 : Int)).bind fun o33 => match o33 with
                          | .inl o34 =>
                              some (0 : Int)
                          | .inr o35 =>
                              some o35)
                    | .inr o36 =>
                        some o36))))))
    | .inr o37 =>
        some o37)

theorem c32 {a0 : List (Int × Int × Int × Int × Int)} {a1 : Int × Int} {a2 : Int × Int} {r : Int} (h : F32 a0 a1 a2 = some r) : CallPure Pg 32 [(.d t22 a0), (.d t28 a1), (.d t28 a2)] (.d t2 r) := by
  refine callPureN hX c_32 117 [.tmp 6] [32] Go.Proofs.Try.func32 (by kernel_rfl) (by kernel_rfl) (by kernel_rfl) (Nat.le_of_ble_eq_true rfl) rfl rfl ?_
  show Run Pg 117 c_32 ⟨[(0, (.d t22 a0)), (1, (.d t28 a1)), (2, (.d t28 a2))], []⟩ (fin32 r)
  unfold F32 at h
  refine Run.regN hX [] 100 [0, 4, 5] [100, 101] ⟨[(0, (.d t22 a0)), (4, (.ptr 100 0)), (5, (.ptr 101 0))], [(100, (.box (.vcons (.d t28 a1) .vnil))), (101, (.box (.vcons (.d t28 a2) .vnil)))]⟩ [] (by kernel_rfl) (by kernel_rfl) trivial ?_
  refine Run.seqN (by kernel_rfl) ?_
  refine Run.regN hX [] 200 [0, 4, 5, 7] [100, 101] ⟨[(0, (.d t22 a0)), (4, (.ptr 100 0)), (5, (.ptr 101 0)), (7, (.d t2 (0 : Int)))], [(100, (.box (.vcons (.d t28 a1) .vnil))), (101, (.box (.vcons (.d t28 a2) .vnil)))]⟩ [] (by kernel_rfl) (by kernel_rfl) trivial ?_
  refine Run.blockN 0 (by kernel_rfl) ?_
  obtain ⟨o5, h_o5, h⟩ := bnd_elim h
  refine Run.mono (f32_l0_ok a0 a1 a2 _ (0 : Int) h_o5) ?_
  rcases o5 with o6 | o37
  · rintro x s ⟨hx, hs⟩
    subst hx
    subst hs
    show Run Pg 117 _ _ _
    refine Run.seqN (by kernel_rfl) ?_
    refine Run.regN hX [] 700 [0, 4, 5, 42] [100, 101] ⟨[(0, (.d t22 a0)), (4, (.ptr 100 0)), (5, (.ptr 101 0)), (42, (.d t4 (decide ((8 : Int) < (ofN (List.length a0))))))], [(100, (.box (.vcons (.d t28 a1) .vnil))), (101, (.box (.vcons (.d t28 a2) .vnil)))]⟩ [] (by kernel_rfl) (by kernel_rfl) trivial ?_
    refine Run.condN (decide ((8 : Int) < (ofN (List.length a0)))) (by kernel_rfl) (fun hb => ?_) (fun hb => ?_)
    · replace h := bif_t h hb
      refine Run.regN hX [] 800 [6] [] ⟨[(6, (.d t2 (3 : Int)))], []⟩ [] (by kernel_rfl) (by kernel_rfl) trivial ?_
      refine Run.retN (by kernel_rfl) ?_
      replace h := Option.some.inj h
      subst h
      exact ⟨[(.d t2 (3 : Int))], by kernel_rfl, by kernel_rfl⟩
    · replace h := bif_f h hb
      refine Run.skipN (by kernel_rfl) ?_
      show Run Pg 117 _ _ _
      refine Run.seqN (by kernel_rfl) ?_
      obtain ⟨y7, h_y7, h⟩ := bnd_elim h
      rcases bif_elim h with ⟨hb1, h⟩ | ⟨hb1, h⟩
      · refine Run.regN hX [(2, .call (.d t4 y7)), (3, .b true)] 900 [0, 4, 5, 60] [100, 101] ⟨[(0, (.d t22 a0)), (4, (.ptr 100 0)), (5, (.ptr 101 0)), (60, (.d t4 true))], [(100, (.box (.vcons (.d t28 a1) .vnil))), (101, (.box (.vcons (.d t28 a2) .vnil)))]⟩ [CallPure Pg 31 [(.d t2 a1.1)] (.d t4 y7), y7 = true] (by kernel_rfl) (by kernel_rfl) ⟨(c31 h_y7), hb1, trivial⟩ ?_
        refine Run.condN true (by kernel_rfl) (fun hb => ?_) (fun hb => (by cases hb))
        refine Run.regN hX [] 1000 [6] [] ⟨[(6, (.d t2 (11 : Int)))], []⟩ [] (by kernel_rfl) (by kernel_rfl) trivial ?_
        refine Run.retN (by kernel_rfl) ?_
        replace h := Option.some.inj h
        subst h
        exact ⟨[(.d t2 (11 : Int))], by kernel_rfl, by kernel_rfl⟩
      · obtain ⟨y8, h_y8, h⟩ := bnd_elim h
        rcases bif_elim h with ⟨hb3, h⟩ | ⟨hb3, h⟩
        · refine Run.regN hX [(2, .call (.d t4 y7)), (3, .b false), (6, .call (.d t4 y8)), (8, .b true)] 900 [0, 4, 5, 60] [100, 101] ⟨[(0, (.d t22 a0)), (4, (.ptr 100 0)), (5, (.ptr 101 0)), (60, (.d t4 true))], [(100, (.box (.vcons (.d t28 a1) .vnil))), (101, (.box (.vcons (.d t28 a2) .vnil)))]⟩ [CallPure Pg 31 [(.d t2 a1.1)] (.d t4 y7), y7 = false, CallPure Pg 31 [(.d t2 a1.2)] (.d t4 y8), y8 = true] (by kernel_rfl) (by kernel_rfl) ⟨(c31 h_y7), hb1, (c31 h_y8), hb3, trivial⟩ ?_
          refine Run.condN true (by kernel_rfl) (fun hb => ?_) (fun hb => (by cases hb))
          refine Run.regN hX [] 1000 [6] [] ⟨[(6, (.d t2 (11 : Int)))], []⟩ [] (by kernel_rfl) (by kernel_rfl) trivial ?_
          refine Run.retN (by kernel_rfl) ?_
          replace h := Option.some.inj h
          subst h
          exact ⟨[(.d t2 (11 : Int))], by kernel_rfl, by kernel_rfl⟩
        · obtain ⟨y9, h_y9, h⟩ := bnd_elim h
          rcases bif_elim h with ⟨hb5, h⟩ | ⟨hb5, h⟩
          · refine Run.regN hX [(2, .call (.d t4 y7)), (3, .b false), (6, .call (.d t4 y8)), (8, .b false), (11, .call (.d t4 y9)), (13, .b true)] 900 [0, 4, 5, 60] [100, 101] ⟨[(0, (.d t22 a0)), (4, (.ptr 100 0)), (5, (.ptr 101 0)), (60, (.d t4 true))], [(100, (.box (.vcons (.d t28 a1) .vnil))), (101, (.box (.vcons (.d t28 a2) .vnil)))]⟩ [CallPure Pg 31 [(.d t2 a1.1)] (.d t4 y7), y7 = false, CallPure Pg 31 [(.d t2 a1.2)] (.d t4 y8), y8 = false, CallPure Pg 31 [(.d t2 a2.1)] (.d t4 y9), y9 = true] (by kernel_rfl) (by kernel_rfl) ⟨(c31 h_y7), hb1, (c31 h_y8), hb3, (c31 h_y9), hb5, trivial⟩ ?_
            refine Run.condN true (by kernel_rfl) (fun hb => ?_) (fun hb => (by cases hb))
            refine Run.regN hX [] 1000 [6] [] ⟨[(6, (.d t2 (11 : Int)))], []⟩ [] (by kernel_rfl) (by kernel_rfl) trivial ?_
            refine Run.retN (by kernel_rfl) ?_
            replace h := Option.some.inj h
            subst h
            exact ⟨[(.d t2 (11 : Int))], by kernel_rfl, by kernel_rfl⟩
          · obtain ⟨y10, h_y10, h⟩ := bnd_elim h
            refine Run.regN hX [(2, .call (.d t4 y7)), (3, .b false), (6, .call (.d t4 y8)), (8, .b false), (11, .call (.d t4 y9)), (13, .b false), (16, .call (.d t4 y10))] 900 [0, 4, 5, 60] [100, 101] ⟨[(0, (.d t22 a0)), (4, (.ptr 100 0)), (5, (.ptr 101 0)), (60, (.d t4 y10))], [(100, (.box (.vcons (.d t28 a1) .vnil))), (101, (.box (.vcons (.d t28 a2) .vnil)))]⟩ [CallPure Pg 31 [(.d t2 a1.1)] (.d t4 y7), y7 = false, CallPure Pg 31 [(.d t2 a1.2)] (.d t4 y8), y8 = false, CallPure Pg 31 [(.d t2 a2.1)] (.d t4 y9), y9 = false, CallPure Pg 31 [(.d t2 a2.2)] (.d t4 y10)] (by kernel_rfl) (by kernel_rfl) ⟨(c31 h_y7), hb1, (c31 h_y8), hb3, (c31 h_y9), hb5, (c31 h_y10), trivial⟩ ?_
            refine Run.condN y10 (by kernel_rfl) (fun hb => ?_) (fun hb => ?_)
            · replace h := bif_t h hb
              refine Run.regN hX [] 1000 [6] [] ⟨[(6, (.d t2 (11 : Int)))], []⟩ [] (by kernel_rfl) (by kernel_rfl) trivial ?_
              refine Run.retN (by kernel_rfl) ?_
              replace h := Option.some.inj h
              subst h
              exact ⟨[(.d t2 (11 : Int))], by kernel_rfl, by kernel_rfl⟩
            · replace h := bif_f h hb
              refine Run.skipN (by kernel_rfl) ?_
              show Run Pg 117 _ _ _
              refine Run.seqN (by kernel_rfl) ?_
              refine Run.regN hX [] 1100 [0, 4, 5, 8] [100, 101] ⟨[(0, (.d t22 a0)), (4, (.ptr 100 0)), (5, (.ptr 101 0)), (8, (.d t2 (0 : Int)))], [(100, (.box (.vcons (.d t28 a1) .vnil))), (101, (.box (.vcons (.d t28 a2) .vnil)))]⟩ [] (by kernel_rfl) (by kernel_rfl) trivial ?_
              refine Run.blockN 2 (by kernel_rfl) ?_
              obtain ⟨o23, h_o23, h⟩ := bnd_elim h
              refine Run.mono (f32_l1_ok a0 a1 a2 _ (0 : Int) h_o23) ?_
              rcases o23 with o24 | o36
              · rintro x s ⟨hx, hs⟩
                subst hx
                subst hs
                show Run Pg 117 _ _ _
                refine Run.seqN (by kernel_rfl) ?_
                refine Run.regN hX [] 1600 [0, 4, 5, 9] [100, 101] ⟨[(0, (.d t22 a0)), (4, (.ptr 100 0)), (5, (.ptr 101 0)), (9, (.d t2 (0 : Int)))], [(100, (.box (.vcons (.d t28 a1) .vnil))), (101, (.box (.vcons (.d t28 a2) .vnil)))]⟩ [] (by kernel_rfl) (by kernel_rfl) trivial ?_
                refine Run.blockN 4 (by kernel_rfl) ?_
                obtain ⟨o33, h_o33, h⟩ := bnd_elim h
                refine Run.mono (f32_l2_ok a0 a1 a2 _ (0 : Int) h_o33) ?_
                rcases o33 with o34 | o35
                · rintro x s ⟨hx, hs⟩
                  subst hx
                  subst hs
                  show Run Pg 117 _ _ _
                  refine Run.regN hX [] 2100 [6] [] ⟨[(6, (.d t2 (0 : Int)))], []⟩ [] (by kernel_rfl) (by kernel_rfl) trivial ?_
                  refine Run.retN (by kernel_rfl) ?_
                  replace h := Option.some.inj h
                  subst h
                  exact ⟨[(.d t2 (0 : Int))], by kernel_rfl, by kernel_rfl⟩
                · rintro x s ⟨hx, hr⟩
                  subst hx
                  replace h := Option.some.inj h
                  subst h
                  exact hr
              · rintro x s ⟨hx, hr⟩
                subst hx
                replace h := Option.some.inj h
                subst h
                exact hr
  · rintro x s ⟨hx, hr⟩
    subst hx
    replace h := Option.some.inj h
    subst h
    exact hr

/-! ## f13 -/

noncomputable def c_13 : Code := body0 Go.Proofs.Try.f13

def fin13 (r : Int) : Ex → St → Prop := endK X0 [.tmp 12] [32] (.d t2 r)

def F13 (a0 : Int × Int × Int × Int × Int × Int × (List (Int × Int × Int × Int × Int)) × Int) (a1 : Int × Int × Int) (a2 : Int × Int × Int) (a3 : Int) (a4 : Int) (a5 : Int) : Option (Int) :=
  (F22 a0).bind fun y1 =>
  (bif (y1 != (0 : Int)) then
    some y1
  else
    (bif (decide (a4 < (0 : Int))) then
      some (1 : Int)
    else
      (bif (decide (a5 ≤ (0 : Int))) then
        some (1 : Int)
      else
        (bif (decide (a3 < (1000 : Int))) then
          some (1 : Int)
        else
          (bif (decide (a3 < a1.2.2)) then
            some (1 : Int)
          else
            (bif (decide (a3 < a2.2.2)) then
              some (1 : Int)
            else
              (F15 a0 a3 (0 : Int)).bind fun y2 =>
              (bif (decide ((8 : Int) < (ofN (List.length y2)))) then
                some (3 : Int)
              else
                (F30 a1).bind fun y3 =>
                (bif y3 then
                  some (11 : Int)
                else
                  (F30 a2).bind fun y4 =>
                  (bif y4 then
                    some (11 : Int)
                  else
                    (F31 a3).bind fun y5 =>
                    (bif y5 then
                      some (11 : Int)
                    else
                      (bif (decide ((10000000 : Int) < a4)) then
                        some (11 : Int)
                      else
                        (F15 a0 a3 a4).bind fun y6 =>
                        (F33 a1).bind fun y7 =>
                        (F33 a2).bind fun y8 =>
                        (F32 y6 y7 y8).bind fun y9 =>
                        some y9)))))))))))

theorem c13 {a0 : Int × Int × Int × Int × Int × Int × (List (Int × Int × Int × Int × Int)) × Int} {a1 : Int × Int × Int} {a2 : Int × Int × Int} {a3 : Int} {a4 : Int} {a5 : Int} {r : Int} (h : F13 a0 a1 a2 a3 a4 a5 = some r) : CallPure Pg 13 [(.d t23 a0), (.d t25 a1), (.d t25 a2), (.d t2 a3), (.d t2 a4), (.d t2 a5)] (.d t2 r) := by
  refine callPureN hX c_13 69 [.tmp 12] [32] Go.Proofs.Try.func13 (by kernel_rfl) (by kernel_rfl) (by kernel_rfl) (Nat.le_of_ble_eq_true rfl) rfl rfl ?_
  show Run Pg 69 c_13 ⟨[(0, (.d t23 a0)), (1, (.d t25 a1)), (2, (.d t25 a2)), (3, (.d t2 a3)), (4, (.d t2 a4)), (5, (.d t2 a5))], []⟩ (fin13 r)
  unfold F13 at h
  refine Run.regN hX [] 100 [3, 4, 5, 6, 7, 8] [100, 101, 102] ⟨[(3, (.d t2 a3)), (4, (.d t2 a4)), (5, (.d t2 a5)), (6, (.ptr 100 0)), (7, (.ptr 101 0)), (8, (.ptr 102 0))], [(100, (.box (.vcons (.d t23 a0) .vnil))), (101, (.box (.vcons (.d t25 a1) .vnil))), (102, (.box (.vcons (.d t25 a2) .vnil)))]⟩ [] (by kernel_rfl) (by kernel_rfl) trivial ?_
  refine Run.seqN (by kernel_rfl) ?_
  obtain ⟨y1, h_y1, h⟩ := bnd_elim h
  refine Run.regN hX [(1, .call (.d t2 y1))] 200 [3, 4, 5, 6, 7, 8, 13] [100, 101, 102] ⟨[(3, (.d t2 a3)), (4, (.d t2 a4)), (5, (.d t2 a5)), (6, (.ptr 100 0)), (7, (.ptr 101 0)), (8, (.ptr 102 0)), (13, (.d t2 y1))], [(100, (.box (.vcons (.d t23 a0) .vnil))), (101, (.box (.vcons (.d t25 a1) .vnil))), (102, (.box (.vcons (.d t25 a2) .vnil)))]⟩ [CallPure Pg 22 [(.d t23 a0)] (.d t2 y1)] (by kernel_rfl) (by kernel_rfl) ⟨(c22 h_y1), trivial⟩ ?_
  refine Run.regN hX [] 300 [3, 4, 5, 6, 7, 8, 13, 17] [100, 101, 102] ⟨[(3, (.d t2 a3)), (4, (.d t2 a4)), (5, (.d t2 a5)), (6, (.ptr 100 0)), (7, (.ptr 101 0)), (8, (.ptr 102 0)), (13, (.d t2 y1)), (17, (.d t4 (y1 != (0 : Int))))], [(100, (.box (.vcons (.d t23 a0) .vnil))), (101, (.box (.vcons (.d t25 a1) .vnil))), (102, (.box (.vcons (.d t25 a2) .vnil)))]⟩ [] (by kernel_rfl) (by kernel_rfl) trivial ?_
  refine Run.condN (y1 != (0 : Int)) (by kernel_rfl) (fun hb => ?_) (fun hb => ?_)
  · replace h := bif_t h hb
    refine Run.regN hX [] 400 [12] [] ⟨[(12, (.d t2 y1))], []⟩ [] (by kernel_rfl) (by kernel_rfl) trivial ?_
    refine Run.retN (by kernel_rfl) ?_
    replace h := Option.some.inj h
    subst h
    exact ⟨[(.d t2 y1)], by kernel_rfl, by kernel_rfl⟩
  · replace h := bif_f h hb
    refine Run.skipN (by kernel_rfl) ?_
    show Run Pg 69 _ _ _
    refine Run.seqN (by kernel_rfl) ?_
    rcases bif_elim h with ⟨hb0, h⟩ | ⟨hb0, h⟩
    · refine Run.regN hX [(2, .b true)] 500 [3, 4, 6, 7, 8, 40] [100, 101, 102] ⟨[(3, (.d t2 a3)), (4, (.d t2 a4)), (6, (.ptr 100 0)), (7, (.ptr 101 0)), (8, (.ptr 102 0)), (40, (.d t4 true))], [(100, (.box (.vcons (.d t23 a0) .vnil))), (101, (.box (.vcons (.d t25 a1) .vnil))), (102, (.box (.vcons (.d t25 a2) .vnil)))]⟩ [(decide (a4 < (0 : Int))) = true] (by kernel_rfl) (by kernel_rfl) ⟨hb0, trivial⟩ ?_
      refine Run.condN true (by kernel_rfl) (fun hb => ?_) (fun hb => (by cases hb))
      refine Run.regN hX [] 600 [12] [] ⟨[(12, (.d t2 (1 : Int)))], []⟩ [] (by kernel_rfl) (by kernel_rfl) trivial ?_
      refine Run.retN (by kernel_rfl) ?_
      replace h := Option.some.inj h
      subst h
      exact ⟨[(.d t2 (1 : Int))], by kernel_rfl, by kernel_rfl⟩
    · rcases bif_elim h with ⟨hb1, h⟩ | ⟨hb1, h⟩
      · refine Run.regN hX [(2, .b false), (6, .b true)] 500 [3, 4, 6, 7, 8, 40] [100, 101, 102] ⟨[(3, (.d t2 a3)), (4, (.d t2 a4)), (6, (.ptr 100 0)), (7, (.ptr 101 0)), (8, (.ptr 102 0)), (40, (.d t4 true))], [(100, (.box (.vcons (.d t23 a0) .vnil))), (101, (.box (.vcons (.d t25 a1) .vnil))), (102, (.box (.vcons (.d t25 a2) .vnil)))]⟩ [(decide (a4 < (0 : Int))) = false, (decide (a5 ≤ (0 : Int))) = true] (by kernel_rfl) (by kernel_rfl) ⟨hb0, hb1, trivial⟩ ?_
        refine Run.condN true (by kernel_rfl) (fun hb => ?_) (fun hb => (by cases hb))
        refine Run.regN hX [] 600 [12] [] ⟨[(12, (.d t2 (1 : Int)))], []⟩ [] (by kernel_rfl) (by kernel_rfl) trivial ?_
        refine Run.retN (by kernel_rfl) ?_
        replace h := Option.some.inj h
        subst h
        exact ⟨[(.d t2 (1 : Int))], by kernel_rfl, by kernel_rfl⟩
      · rcases bif_elim h with ⟨hb2, h⟩ | ⟨hb2, h⟩
        · refine Run.regN hX [(2, .b false), (6, .b false), (10, .b true)] 500 [3, 4, 6, 7, 8, 40] [100, 101, 102] ⟨[(3, (.d t2 a3)), (4, (.d t2 a4)), (6, (.ptr 100 0)), (7, (.ptr 101 0)), (8, (.ptr 102 0)), (40, (.d t4 true))], [(100, (.box (.vcons (.d t23 a0) .vnil))), (101, (.box (.vcons (.d t25 a1) .vnil))), (102, (.box (.vcons (.d t25 a2) .vnil)))]⟩ [(decide (a4 < (0 : Int))) = false, (decide (a5 ≤ (0 : Int))) = false, (decide (a3 < (1000 : Int))) = true] (by kernel_rfl) (by kernel_rfl) ⟨hb0, hb1, hb2, trivial⟩ ?_
          refine Run.condN true (by kernel_rfl) (fun hb => ?_) (fun hb => (by cases hb))
          refine Run.regN hX [] 600 [12] [] ⟨[(12, (.d t2 (1 : Int)))], []⟩ [] (by kernel_rfl) (by kernel_rfl) trivial ?_
          refine Run.retN (by kernel_rfl) ?_
          replace h := Option.some.inj h
          subst h
          exact ⟨[(.d t2 (1 : Int))], by kernel_rfl, by kernel_rfl⟩
        · rcases bif_elim h with ⟨hb3, h⟩ | ⟨hb3, h⟩
          · refine Run.regN hX [(2, .b false), (6, .b false), (10, .b false), (16, .b true)] 500 [3, 4, 6, 7, 8, 40] [100, 101, 102] ⟨[(3, (.d t2 a3)), (4, (.d t2 a4)), (6, (.ptr 100 0)), (7, (.ptr 101 0)), (8, (.ptr 102 0)), (40, (.d t4 true))], [(100, (.box (.vcons (.d t23 a0) .vnil))), (101, (.box (.vcons (.d t25 a1) .vnil))), (102, (.box (.vcons (.d t25 a2) .vnil)))]⟩ [(decide (a4 < (0 : Int))) = false, (decide (a5 ≤ (0 : Int))) = false, (decide (a3 < (1000 : Int))) = false, (decide (a3 < a1.2.2)) = true] (by kernel_rfl) (by kernel_rfl) ⟨hb0, hb1, hb2, hb3, trivial⟩ ?_
            refine Run.condN true (by kernel_rfl) (fun hb => ?_) (fun hb => (by cases hb))
            refine Run.regN hX [] 600 [12] [] ⟨[(12, (.d t2 (1 : Int)))], []⟩ [] (by kernel_rfl) (by kernel_rfl) trivial ?_
            refine Run.retN (by kernel_rfl) ?_
            replace h := Option.some.inj h
            subst h
            exact ⟨[(.d t2 (1 : Int))], by kernel_rfl, by kernel_rfl⟩
          · refine Run.regN hX [(2, .b false), (6, .b false), (10, .b false), (16, .b false)] 500 [3, 4, 6, 7, 8, 40] [100, 101, 102] ⟨[(3, (.d t2 a3)), (4, (.d t2 a4)), (6, (.ptr 100 0)), (7, (.ptr 101 0)), (8, (.ptr 102 0)), (40, (.d t4 (decide (a3 < a2.2.2))))], [(100, (.box (.vcons (.d t23 a0) .vnil))), (101, (.box (.vcons (.d t25 a1) .vnil))), (102, (.box (.vcons (.d t25 a2) .vnil)))]⟩ [(decide (a4 < (0 : Int))) = false, (decide (a5 ≤ (0 : Int))) = false, (decide (a3 < (1000 : Int))) = false, (decide (a3 < a1.2.2)) = false] (by kernel_rfl) (by kernel_rfl) ⟨hb0, hb1, hb2, hb3, trivial⟩ ?_
            refine Run.condN (decide (a3 < a2.2.2)) (by kernel_rfl) (fun hb => ?_) (fun hb => ?_)
            · replace h := bif_t h hb
              refine Run.regN hX [] 600 [12] [] ⟨[(12, (.d t2 (1 : Int)))], []⟩ [] (by kernel_rfl) (by kernel_rfl) trivial ?_
              refine Run.retN (by kernel_rfl) ?_
              replace h := Option.some.inj h
              subst h
              exact ⟨[(.d t2 (1 : Int))], by kernel_rfl, by kernel_rfl⟩
            · replace h := bif_f h hb
              refine Run.skipN (by kernel_rfl) ?_
              show Run Pg 69 _ _ _
              refine Run.seqN (by kernel_rfl) ?_
              obtain ⟨y2, h_y2, h⟩ := bnd_elim h
              refine Run.regN hX [(2, .call (.d t22 y2))] 700 [3, 4, 6, 7, 8, 45] [100, 101, 102] ⟨[(3, (.d t2 a3)), (4, (.d t2 a4)), (6, (.ptr 100 0)), (7, (.ptr 101 0)), (8, (.ptr 102 0)), (45, (.d t4 (decide ((8 : Int) < (ofN (List.length y2))))))], [(100, (.box (.vcons (.d t23 a0) .vnil))), (101, (.box (.vcons (.d t25 a1) .vnil))), (102, (.box (.vcons (.d t25 a2) .vnil)))]⟩ [CallPure Pg 15 [(.d t23 a0), (.d t2 a3), (.d t2 (0 : Int))] (.d t22 y2)] (by kernel_rfl) (by kernel_rfl) ⟨(c15 h_y2), trivial⟩ ?_
              refine Run.condN (decide ((8 : Int) < (ofN (List.length y2)))) (by kernel_rfl) (fun hb => ?_) (fun hb => ?_)
              · replace h := bif_t h hb
                refine Run.regN hX [] 800 [12] [] ⟨[(12, (.d t2 (3 : Int)))], []⟩ [] (by kernel_rfl) (by kernel_rfl) trivial ?_
                refine Run.retN (by kernel_rfl) ?_
                replace h := Option.some.inj h
                subst h
                exact ⟨[(.d t2 (3 : Int))], by kernel_rfl, by kernel_rfl⟩
              · replace h := bif_f h hb
                refine Run.skipN (by kernel_rfl) ?_
                show Run Pg 69 _ _ _
                refine Run.seqN (by kernel_rfl) ?_
                obtain ⟨y3, h_y3, h⟩ := bnd_elim h
                rcases bif_elim h with ⟨hb1, h⟩ | ⟨hb1, h⟩
                · refine Run.regN hX [(1, .call (.d t4 y3)), (2, .b true)] 900 [3, 4, 6, 7, 8, 59] [100, 101, 102] ⟨[(3, (.d t2 a3)), (4, (.d t2 a4)), (6, (.ptr 100 0)), (7, (.ptr 101 0)), (8, (.ptr 102 0)), (59, (.d t4 true))], [(100, (.box (.vcons (.d t23 a0) .vnil))), (101, (.box (.vcons (.d t25 a1) .vnil))), (102, (.box (.vcons (.d t25 a2) .vnil)))]⟩ [CallPure Pg 30 [(.d t25 a1)] (.d t4 y3), y3 = true] (by kernel_rfl) (by kernel_rfl) ⟨(c30 h_y3), hb1, trivial⟩ ?_
                  refine Run.condN true (by kernel_rfl) (fun hb => ?_) (fun hb => (by cases hb))
                  refine Run.regN hX [] 1000 [12] [] ⟨[(12, (.d t2 (11 : Int)))], []⟩ [] (by kernel_rfl) (by kernel_rfl) trivial ?_
                  refine Run.retN (by kernel_rfl) ?_
                  replace h := Option.some.inj h
                  subst h
                  exact ⟨[(.d t2 (11 : Int))], by kernel_rfl, by kernel_rfl⟩
                · obtain ⟨y4, h_y4, h⟩ := bnd_elim h
                  rcases bif_elim h with ⟨hb3, h⟩ | ⟨hb3, h⟩
                  · refine Run.regN hX [(1, .call (.d t4 y3)), (2, .b false), (4, .call (.d t4 y4)), (6, .b true)] 900 [3, 4, 6, 7, 8, 59] [100, 101, 102] ⟨[(3, (.d t2 a3)), (4, (.d t2 a4)), (6, (.ptr 100 0)), (7, (.ptr 101 0)), (8, (.ptr 102 0)), (59, (.d t4 true))], [(100, (.box (.vcons (.d t23 a0) .vnil))), (101, (.box (.vcons (.d t25 a1) .vnil))), (102, (.box (.vcons (.d t25 a2) .vnil)))]⟩ [CallPure Pg 30 [(.d t25 a1)] (.d t4 y3), y3 = false, CallPure Pg 30 [(.d t25 a2)] (.d t4 y4), y4 = true] (by kernel_rfl) (by kernel_rfl) ⟨(c30 h_y3), hb1, (c30 h_y4), hb3, trivial⟩ ?_
                    refine Run.condN true (by kernel_rfl) (fun hb => ?_) (fun hb => (by cases hb))
                    refine Run.regN hX [] 1000 [12] [] ⟨[(12, (.d t2 (11 : Int)))], []⟩ [] (by kernel_rfl) (by kernel_rfl) trivial ?_
                    refine Run.retN (by kernel_rfl) ?_
                    replace h := Option.some.inj h
                    subst h
                    exact ⟨[(.d t2 (11 : Int))], by kernel_rfl, by kernel_rfl⟩
                  · obtain ⟨y5, h_y5, h⟩ := bnd_elim h
                    rcases bif_elim h with ⟨hb5, h⟩ | ⟨hb5, h⟩
                    · refine Run.regN hX [(1, .call (.d t4 y3)), (2, .b false), (4, .call (.d t4 y4)), (6, .b false), (8, .call (.d t4 y5)), (10, .b true)] 900 [3, 4, 6, 7, 8, 59] [100, 101, 102] ⟨[(3, (.d t2 a3)), (4, (.d t2 a4)), (6, (.ptr 100 0)), (7, (.ptr 101 0)), (8, (.ptr 102 0)), (59, (.d t4 true))], [(100, (.box (.vcons (.d t23 a0) .vnil))), (101, (.box (.vcons (.d t25 a1) .vnil))), (102, (.box (.vcons (.d t25 a2) .vnil)))]⟩ [CallPure Pg 30 [(.d t25 a1)] (.d t4 y3), y3 = false, CallPure Pg 30 [(.d t25 a2)] (.d t4 y4), y4 = false, CallPure Pg 31 [(.d t2 a3)] (.d t4 y5), y5 = true] (by kernel_rfl) (by kernel_rfl) ⟨(c30 h_y3), hb1, (c30 h_y4), hb3, (c31 h_y5), hb5, trivial⟩ ?_
                      refine Run.condN true (by kernel_rfl) (fun hb => ?_) (fun hb => (by cases hb))
                      refine Run.regN hX [] 1000 [12] [] ⟨[(12, (.d t2 (11 : Int)))], []⟩ [] (by kernel_rfl) (by kernel_rfl) trivial ?_
                      refine Run.retN (by kernel_rfl) ?_
                      replace h := Option.some.inj h
                      subst h
                      exact ⟨[(.d t2 (11 : Int))], by kernel_rfl, by kernel_rfl⟩
                    · refine Run.regN hX [(1, .call (.d t4 y3)), (2, .b false), (4, .call (.d t4 y4)), (6, .b false), (8, .call (.d t4 y5)), (10, .b false)] 900 [3, 4, 6, 7, 8, 59] [100, 101, 102] ⟨[(3, (.d t2 a3)), (4, (.d t2 a4)), (6, (.ptr 100 0)), (7, (.ptr 101 0)), (8, (.ptr 102 0)), (59, (.d t4 (decide ((10000000 : Int) < a4))))], [(100, (.box (.vcons (.d t23 a0) .vnil))), (101, (.box (.vcons (.d t25 a1) .vnil))), (102, (.box (.vcons (.d t25 a2) .vnil)))]⟩ [CallPure Pg 30 [(.d t25 a1)] (.d t4 y3), y3 = false, CallPure Pg 30 [(.d t25 a2)] (.d t4 y4), y4 = false, CallPure Pg 31 [(.d t2 a3)] (.d t4 y5), y5 = false] (by kernel_rfl) (by kernel_rfl) ⟨(c30 h_y3), hb1, (c30 h_y4), hb3, (c31 h_y5), hb5, trivial⟩ ?_
                      refine Run.condN (decide ((10000000 : Int) < a4)) (by kernel_rfl) (fun hb => ?_) (fun hb => ?_)
                      · replace h := bif_t h hb
                        refine Run.regN hX [] 1000 [12] [] ⟨[(12, (.d t2 (11 : Int)))], []⟩ [] (by kernel_rfl) (by kernel_rfl) trivial ?_
                        refine Run.retN (by kernel_rfl) ?_
                        replace h := Option.some.inj h
                        subst h
                        exact ⟨[(.d t2 (11 : Int))], by kernel_rfl, by kernel_rfl⟩
                      · replace h := bif_f h hb
                        refine Run.skipN (by kernel_rfl) ?_
                        show Run Pg 69 _ _ _
                        obtain ⟨y6, h_y6, h⟩ := bnd_elim h
                        obtain ⟨y7, h_y7, h⟩ := bnd_elim h
                        obtain ⟨y8, h_y8, h⟩ := bnd_elim h
                        obtain ⟨y9, h_y9, h⟩ := bnd_elim h
                        refine Run.regN hX [(3, .call (.d t22 y6)), (5, .call (.d t28 y7)), (7, .call (.d t28 y8)), (8, .call (.d t2 y9))] 1100 [12] [] ⟨[(12, (.d t2 y9))], []⟩ [CallPure Pg 15 [(.d t23 a0), (.d t2 a3), (.d t2 a4)] (.d t22 y6), CallPure Pg 33 [(.d t25 a1)] (.d t28 y7), CallPure Pg 33 [(.d t25 a2)] (.d t28 y8), CallPure Pg 32 [(.d t22 y6), (.d t28 y7), (.d t28 y8)] (.d t2 y9)] (by kernel_rfl) (by kernel_rfl) ⟨(c15 h_y6), (c33 h_y7), (c33 h_y8), (c32 h_y9), trivial⟩ ?_
                        refine Run.retN (by kernel_rfl) ?_
                        replace h := Option.some.inj h
                        subst h
                        exact ⟨[(.d t2 y9)], by kernel_rfl, by kernel_rfl⟩

/-! ## f40 -/

noncomputable def c_40 : Code := body0 Go.Proofs.Try.f40

def fin40s0 (a3 : List (Int × (Int × Int × Int) × (Int × Int) × Int)) (r : (Int × Int × Int) × (List (Int × (Int × Int × Int) × (Int × Int) × Int))) : Ex → St → Prop := endR X0 [.cell 6 78] [78] (.agg (.vcons (.d t25 r.1) (.vcons (.vec 900000 t66) .vnil))) [(900000, (.vec 67 t66 r.2))]

def f40s0_c0_post (x1 : Int) (x2 : Int) (x3 : Bool) (x4 : Int × Int × Int) (x5 : Int × Int × Int) (x6 : (Int × Int × Int) × (List (Int × (Int × Int × Int) × (Int × Int) × Int))) (x7 : List (Int × (Int × Int × Int) × (Int × Int) × Int)) : (Int) → Ex → St → Prop
  | o, x, s => x = .nrm ∧ s = ⟨[(2, (.d t2 x1)), (3, (.ptr 100 0)), (4, (.ptr 101 0)), (6, (.ptr 102 0)), (7, (.d t2 o))], [(100, (.box (.vcons (.d t25 x4) (.vcons (.vec 900000 t66) .vnil)))), (101, (.box (.vcons (.d t25 x5) .vnil))), (102, (.box (.vcons (.d t60 x6) .vnil))), (900000, (.vec 67 t66 x7))]⟩

def f40s0_c0 (x2 : Int) (x3 : Bool) : Option (Int) :=
  (bif x3 then
    some (2 : Int)
  else
    some x2)

theorem f40s0_c0_ok (x1 : Int) (x2 : Int) (x3 : Bool) (x4 : Int × Int × Int) (x5 : Int × Int × Int) (x6 : (Int × Int × Int) × (List (Int × (Int × Int × Int) × (Int × Int) × Int))) (x7 : List (Int × (Int × Int × Int) × (Int × Int) × Int)) {out : (Int)} (h : f40s0_c0 x2 x3 = some out) : Run Pg 25 (sq2 (sq1 (sq2 (sq2 (sq2 c_40))))) ⟨[(2, (.d t2 x1)), (3, (.ptr 100 0)), (4, (.ptr 101 0)), (6, (.ptr 102 0)), (7, (.d t2 x2)), (14, (.d t4 x3))], [(100, (.box (.vcons (.d t25 x4) (.vcons (.vec 900000 t66) .vnil)))), (101, (.box (.vcons (.d t25 x5) .vnil))), (102, (.box (.vcons (.d t60 x6) .vnil))), (900000, (.vec 67 t66 x7))]⟩ (f40s0_c0_post x1 x2 x3 x4 x5 x6 x7 out) := by
  unfold f40s0_c0 at h
  refine Run.condN x3 (by kernel_rfl) (fun hb => ?_) (fun hb => ?_)
  · replace h := bif_t h hb
    refine Run.regE hX [] 600 [2, 3, 4, 6, 7] [100, 101, 102, 900000] ⟨[(2, (.d t2 x1)), (3, (.ptr 100 0)), (4, (.ptr 101 0)), (6, (.ptr 102 0)), (7, (.d t2 (2 : Int)))], [(100, (.box (.vcons (.d t25 x4) (.vcons (.vec 900000 t66) .vnil)))), (101, (.box (.vcons (.d t25 x5) .vnil))), (102, (.box (.vcons (.d t60 x6) .vnil))), (900000, (.vec 67 t66 x7))]⟩ [] (by kernel_rfl) trivial ?_
    replace h := Option.some.inj h
    subst h
    exact ⟨rfl, by kernel_rfl⟩
  · replace h := bif_f h hb
    refine Run.keep (s' := ⟨[(2, (.d t2 x1)), (3, (.ptr 100 0)), (4, (.ptr 101 0)), (6, (.ptr 102 0)), (7, (.d t2 x2))], [(100, (.box (.vcons (.d t25 x4) (.vcons (.vec 900000 t66) .vnil)))), (101, (.box (.vcons (.d t25 x5) .vnil))), (102, (.box (.vcons (.d t60 x6) .vnil))), (900000, (.vec 67 t66 x7))]⟩) [2, 3, 4, 6, 7] [100, 101, 102, 900000] (by kernel_rfl) ?_
    refine Run.skipN (by kernel_rfl) ?_
    replace h := Option.some.inj h
    subst h
    exact ⟨rfl, by kernel_rfl⟩

def F40s0 (a0 : Int × Int × Int) (a1 : Int × Int × Int) (a2 : Int) (a3 : List (Int × (Int × Int × Int) × (Int × Int) × Int)) : Option ((Int × Int × Int) × (List (Int × (Int × Int × Int) × (Int × Int) × Int))) :=
  (bif (eqD t25 a1 a0) then
    some (a0, a3)
  else
    ((f40s0_c0 (1 : Int) (decide ((0 : Int) < a2))).bind fun o8 =>
      gd (List.length (a3 ++ ([(o8, a1, ((0 : Int), (0 : Int)), a2)] : List (Int × (Int × Int × Int) × (Int × Int) × Int))) ≤ 1073741824) <|
      some (a1, (a3 ++ ([(o8, a1, ((0 : Int), (0 : Int)), a2)] : List (Int × (Int × Int × Int) × (Int × Int) × Int))))))

theorem c40s0 {a0 : Int × Int × Int} {a1 : Int × Int × Int} {a2 : Int} {a3 : List (Int × (Int × Int × Int) × (Int × Int) × Int)} {r : (Int × Int × Int) × (List (Int × (Int × Int × Int) × (Int × Int) × Int))} (h : F40s0 a0 a1 a2 a3 = some r) : CallSt Pg 40 [(.agg (.vcons (.d t25 a0) (.vcons (.vec 900000 t66) .vnil))), (.d t25 a1), (.d t2 a2)] [(900000, (.vec 67 t66 a3))] (.agg (.vcons (.d t25 r.1) (.vcons (.vec 900000 t66) .vnil))) [(900000, (.vec 67 t66 r.2))] := by
  refine callStR hX c_40 25 [.cell 6 78] [78] Go.Proofs.Try.func40 (by kernel_rfl) (by kernel_rfl) (by kernel_rfl) (Nat.le_of_ble_eq_true rfl)  ?_
  show Run Pg 25 c_40 ⟨[(0, (.agg (.vcons (.d t25 a0) (.vcons (.vec 900000 t66) .vnil)))), (1, (.d t25 a1)), (2, (.d t2 a2))], [(900000, (.vec 67 t66 a3))]⟩ (fin40s0 a3 r)
  unfold F40s0 at h
  refine Run.regN hX [] 100 [2, 3, 4, 6] [100, 101, 102, 900000] ⟨[(2, (.d t2 a2)), (3, (.ptr 100 0)), (4, (.ptr 101 0)), (6, (.ptr 102 0))], [(100, (.box (.vcons (.d t25 a0) (.vcons (.vec 900000 t66) .vnil)))), (101, (.box (.vcons (.d t25 a1) .vnil))), (102, (.box (.vcons (.d t60 (((0 : Int), (0 : Int), (0 : Int)), ([] : List (Int × (Int × Int × Int) × (Int × Int) × Int)))) .vnil))), (900000, (.vec 67 t66 a3))]⟩ [] (by kernel_rfl) (by kernel_rfl) trivial ?_
  refine Run.seqN (by kernel_rfl) ?_
  refine Run.regN hX [] 200 [2, 3, 4, 6, 11] [100, 101, 102, 900000] ⟨[(2, (.d t2 a2)), (3, (.ptr 100 0)), (4, (.ptr 101 0)), (6, (.ptr 102 0)), (11, (.d t4 (eqD t25 a1 a0)))], [(100, (.box (.vcons (.d t25 a0) (.vcons (.vec 900000 t66) .vnil)))), (101, (.box (.vcons (.d t25 a1) .vnil))), (102, (.box (.vcons (.d t60 (((0 : Int), (0 : Int), (0 : Int)), ([] : List (Int × (Int × Int × Int) × (Int × Int) × Int)))) .vnil))), (900000, (.vec 67 t66 a3))]⟩ [] (by kernel_rfl) (by kernel_rfl) trivial ?_
  refine Run.condN (eqD t25 a1 a0) (by kernel_rfl) (fun hb => ?_) (fun hb => ?_)
  · replace h := bif_t h hb
    refine Run.regN hX [] 300 [6] [102, 900000] ⟨[(6, (.ptr 102 0))], [(102, (.box (.vcons (.d t25 a0) (.vcons (.vec 900000 t66) .vnil)))), (900000, (.vec 67 t66 a3))]⟩ [] (by kernel_rfl) (by kernel_rfl) trivial ?_
    refine Run.retN (by kernel_rfl) ?_
    replace h := Option.some.inj h
    subst h
    exact ⟨[(.agg (.vcons (.d t25 a0) (.vcons (.vec 900000 t66) .vnil)))], ⟨[], [(900000, (.vec 67 t66 a3))]⟩, by kernel_rfl, by kernel_rfl, by kernel_rfl, by kernel_rfl⟩
  · replace h := bif_f h hb
    refine Run.skipN (by kernel_rfl) ?_
    show Run Pg 25 _ _ _
    refine Run.regN hX [] 400 [2, 3, 4, 6, 7] [100, 101, 102, 900000] ⟨[(2, (.d t2 a2)), (3, (.ptr 100 0)), (4, (.ptr 101 0)), (6, (.ptr 102 0)), (7, (.d t2 (1 : Int)))], [(100, (.box (.vcons (.d t25 a0) (.vcons (.vec 900000 t66) .vnil)))), (101, (.box (.vcons (.d t25 a1) .vnil))), (102, (.box (.vcons (.d t60 (((0 : Int), (0 : Int), (0 : Int)), ([] : List (Int × (Int × Int × Int) × (Int × Int) × Int)))) .vnil))), (900000, (.vec 67 t66 a3))]⟩ [] (by kernel_rfl) (by kernel_rfl) trivial ?_
    refine Run.seqN (by kernel_rfl) ?_
    refine Run.regN hX [] 500 [2, 3, 4, 6, 7, 14] [100, 101, 102, 900000] ⟨[(2, (.d t2 a2)), (3, (.ptr 100 0)), (4, (.ptr 101 0)), (6, (.ptr 102 0)), (7, (.d t2 (1 : Int))), (14, (.d t4 (decide ((0 : Int) < a2))))], [(100, (.box (.vcons (.d t25 a0) (.vcons (.vec 900000 t66) .vnil)))), (101, (.box (.vcons (.d t25 a1) .vnil))), (102, (.box (.vcons (.d t60 (((0 : Int), (0 : Int), (0 : Int)), ([] : List (Int × (Int × Int × Int) × (Int × Int) × Int)))) .vnil))), (900000, (.vec 67 t66 a3))]⟩ [] (by kernel_rfl) (by kernel_rfl) trivial ?_
    obtain ⟨o8, h_o8, h⟩ := bnd_elim h
    refine Run.mono (f40s0_c0_ok a2 (1 : Int) (decide ((0 : Int) < a2)) a0 a1 (((0 : Int), (0 : Int), (0 : Int)), ([] : List (Int × (Int × Int × Int) × (Int × Int) × Int))) a3 h_o8) ?_
    rintro x s ⟨hx, hs⟩
    subst hx
    subst hs
    show Run Pg 25 _ _ _
    obtain ⟨g_0, h⟩ := gd_elim h
    refine Run.regN hX [(9, .part)] 700 [6] [102, 900000] ⟨[(6, (.ptr 102 0))], [(102, (.box (.vcons (.d t25 a1) (.vcons (.vec 900000 t66) .vnil)))), (900000, (.vec 67 t66 (a3 ++ ([(o8, a1, ((0 : Int), (0 : Int)), a2)] : List (Int × (Int × Int × Int) × (Int × Int) × Int)))))]⟩ [(List.length (a3 ++ ([(o8, a1, ((0 : Int), (0 : Int)), a2)] : List (Int × (Int × Int × Int) × (Int × Int) × Int))) ≤ 1073741824)] (by kernel_rfl) (by kernel_rfl) ⟨g_0, trivial⟩ ?_
    refine Run.retN (by kernel_rfl) ?_
    replace h := Option.some.inj h
    subst h
    exact ⟨[(.agg (.vcons (.d t25 a1) (.vcons (.vec 900000 t66) .vnil)))], ⟨[], [(900000, (.vec 67 t66 (a3 ++ ([(o8, a1, ((0 : Int), (0 : Int)), a2)] : List (Int × (Int × Int × Int) × (Int × Int) × Int)))))]⟩, by kernel_rfl, by kernel_rfl, by kernel_rfl, by kernel_rfl⟩

/-! ## f41 -/

noncomputable def c_41 : Code := body0 Go.Proofs.Try.f41

def fin41s0 (a3 : List (Int × (Int × Int × Int) × (Int × Int) × Int)) (r : (Int × Int × Int) × (List (Int × (Int × Int × Int) × (Int × Int) × Int))) : Ex → St → Prop := endR X0 [.cell 6 78] [78] (.agg (.vcons (.d t25 r.1) (.vcons (.vec 900000 t66) .vnil))) [(900000, (.vec 67 t66 r.2))]

def f41s0_c0_post (x1 : Int) (x2 : Bool) (x3 : Int × Int × Int) (x4 : Int × Int × Int) (x5 : (Int × Int × Int) × (List (Int × (Int × Int × Int) × (Int × Int) × Int))) (x6 : List (Int × (Int × Int × Int) × (Int × Int) × Int)) : ((Int × Int × Int)) → Ex → St → Prop
  | o, x, s => x = .nrm ∧ s = ⟨[(2, (.d t2 x1)), (3, (.ptr 100 0)), (4, (.ptr 101 0)), (6, (.ptr 102 0)), (7, (.ptr 201 0))], [(100, (.box (.vcons (.d t25 x3) (.vcons (.vec 900000 t66) .vnil)))), (101, (.box (.vcons (.d t25 x4) .vnil))), (102, (.box (.vcons (.d t60 x5) .vnil))), (201, (.box (.vcons (.d t25 o) .vnil))), (900000, (.vec 67 t66 x6))]⟩

def f41s0_c0 (x2 : Bool) (x4 : Int × Int × Int) : Option ((Int × Int × Int)) :=
  (bif x2 then
    some (x4.1, x4.2.1, (1000 : Int))
  else
    some x4)

theorem f41s0_c0_ok (x1 : Int) (x2 : Bool) (x3 : Int × Int × Int) (x4 : Int × Int × Int) (x5 : (Int × Int × Int) × (List (Int × (Int × Int × Int) × (Int × Int) × Int))) (x6 : List (Int × (Int × Int × Int) × (Int × Int) × Int)) {out : ((Int × Int × Int))} (h : f41s0_c0 x2 x4 = some out) : Run Pg 30 (sq2 (sq1 (sq2 (sq2 c_41)))) ⟨[(2, (.d t2 x1)), (3, (.ptr 100 0)), (4, (.ptr 101 0)), (6, (.ptr 102 0)), (7, (.ptr 201 0)), (11, (.d t4 x2))], [(100, (.box (.vcons (.d t25 x3) (.vcons (.vec 900000 t66) .vnil)))), (101, (.box (.vcons (.d t25 x4) .vnil))), (102, (.box (.vcons (.d t60 x5) .vnil))), (201, (.box (.vcons (.d t25 x4) .vnil))), (900000, (.vec 67 t66 x6))]⟩ (f41s0_c0_post x1 x2 x3 x4 x5 x6 out) := by
  unfold f41s0_c0 at h
  refine Run.condN x2 (by kernel_rfl) (fun hb => ?_) (fun hb => ?_)
  · replace h := bif_t h hb
    refine Run.regE hX [] 400 [2, 3, 4, 6, 7] [100, 101, 102, 201, 900000] ⟨[(2, (.d t2 x1)), (3, (.ptr 100 0)), (4, (.ptr 101 0)), (6, (.ptr 102 0)), (7, (.ptr 201 0))], [(100, (.box (.vcons (.d t25 x3) (.vcons (.vec 900000 t66) .vnil)))), (101, (.box (.vcons (.d t25 x4) .vnil))), (102, (.box (.vcons (.d t60 x5) .vnil))), (201, (.box (.vcons (.d t25 (x4.1, x4.2.1, (1000 : Int))) .vnil))), (900000, (.vec 67 t66 x6))]⟩ [] (by kernel_rfl) trivial ?_
    replace h := Option.some.inj h
    subst h
    exact ⟨rfl, by kernel_rfl⟩
  · replace h := bif_f h hb
    refine Run.keep (s' := ⟨[(2, (.d t2 x1)), (3, (.ptr 100 0)), (4, (.ptr 101 0)), (6, (.ptr 102 0)), (7, (.ptr 201 0))], [(100, (.box (.vcons (.d t25 x3) (.vcons (.vec 900000 t66) .vnil)))), (101, (.box (.vcons (.d t25 x4) .vnil))), (102, (.box (.vcons (.d t60 x5) .vnil))), (201, (.box (.vcons (.d t25 x4) .vnil))), (900000, (.vec 67 t66 x6))]⟩) [2, 3, 4, 6, 7] [100, 101, 102, 201, 900000] (by kernel_rfl) ?_
    refine Run.skipN (by kernel_rfl) ?_
    replace h := Option.some.inj h
    subst h
    exact ⟨rfl, by kernel_rfl⟩

def f41s0_c1_post (x8 : Int) (x9 : Bool) (x10 : Int × Int × Int) (x11 : Int × Int × Int) (x12 : (Int × Int × Int) × (List (Int × (Int × Int × Int) × (Int × Int) × Int))) (x13 : Int × Int × Int) (x14 : List (Int × (Int × Int × Int) × (Int × Int) × Int)) : ((Int × Int × Int) × (List (Int × (Int × Int × Int) × (Int × Int) × Int))) → Ex → St → Prop
  | o, x, s => x = .nrm ∧ s = ⟨[(2, (.d t2 x8)), (3, (.ptr 100 0)), (4, (.ptr 101 0)), (6, (.ptr 102 0))], [(100, (.box (.vcons (.d t25 o.1) (.vcons (.vec 900000 t66) .vnil)))), (101, (.box (.vcons (.d t25 x11) .vnil))), (102, (.box (.vcons (.d t60 x12) .vnil))), (900000, (.vec 67 t66 o.2))]⟩

def f41s0_c1 (x9 : Bool) (x10 : Int × Int × Int) (x13 : Int × Int × Int) (x14 : List (Int × (Int × Int × Int) × (Int × Int) × Int)) : Option ((Int × Int × Int) × (List (Int × (Int × Int × Int) × (Int × Int) × Int))) :=
  (bif x9 then
    (F40s0 x10 x13 (0 : Int) x14).bind fun y16 =>
    some (y16.1, y16.2)
  else
    some (x10, x14))

theorem f41s0_c1_ok (x8 : Int) (x9 : Bool) (x10 : Int × Int × Int) (x11 : Int × Int × Int) (x12 : (Int × Int × Int) × (List (Int × (Int × Int × Int) × (Int × Int) × Int))) (x13 : Int × Int × Int) (x14 : List (Int × (Int × Int × Int) × (Int × Int) × Int)) {out : ((Int × Int × Int) × (List (Int × (Int × Int × Int) × (Int × Int) × Int)))} (h : f41s0_c1 x9 x10 x13 x14 = some out) : Run Pg 30 (sq2 (sq1 (sq2 (sq2 (sq2 c_41))))) ⟨[(2, (.d t2 x8)), (3, (.ptr 100 0)), (4, (.ptr 101 0)), (6, (.ptr 102 0)), (7, (.ptr 201 0)), (18, (.d t4 x9))], [(100, (.box (.vcons (.d t25 x10) (.vcons (.vec 900000 t66) .vnil)))), (101, (.box (.vcons (.d t25 x11) .vnil))), (102, (.box (.vcons (.d t60 x12) .vnil))), (201, (.box (.vcons (.d t25 x13) .vnil))), (900000, (.vec 67 t66 x14))]⟩ (f41s0_c1_post x8 x9 x10 x11 x12 x13 x14 out) := by
  unfold f41s0_c1 at h
  refine Run.condN x9 (by kernel_rfl) (fun hb => ?_) (fun hb => ?_)
  · replace h := bif_t h hb
    obtain ⟨y16, h_y16, h⟩ := bnd_elim h
    refine Run.regE hX [(2, .callS [(900000, (.vec 67 t66 x14))] [(.agg (.vcons (.d t25 x10) (.vcons (.vec 900000 t66) .vnil))), (.d t25 x13), (.d t2 (0 : Int))] [(900000, 900000)] (.agg (.vcons (.d t25 y16.1) (.vcons (.vec 900000 t66) .vnil))) [(900000, (.vec 67 t66 y16.2))])] 600 [2, 3, 4, 6] [100, 101, 102, 900000] ⟨[(2, (.d t2 x8)), (3, (.ptr 100 0)), (4, (.ptr 101 0)), (6, (.ptr 102 0))], [(100, (.box (.vcons (.d t25 y16.1) (.vcons (.vec 900000 t66) .vnil)))), (101, (.box (.vcons (.d t25 x11) .vnil))), (102, (.box (.vcons (.d t60 x12) .vnil))), (900000, (.vec 67 t66 y16.2))]⟩ [(([(.agg (.vcons (.d t25 x10) (.vcons (.vec 900000 t66) .vnil))), (.d t25 x13), (.d t2 (0 : Int))] : List V) = List.map (V.ren (renL [(900000, 900000)] 602)) [(.agg (.vcons (.d t25 x10) (.vcons (.vec 900000 t66) .vnil))), (.d t25 x13), (.d t2 (0 : Int))]), CallSt Pg 40 [(.agg (.vcons (.d t25 x10) (.vcons (.vec 900000 t66) .vnil))), (.d t25 x13), (.d t2 (0 : Int))] [(900000, (.vec 67 t66 x14))] (.agg (.vcons (.d t25 y16.1) (.vcons (.vec 900000 t66) .vnil))) [(900000, (.vec 67 t66 y16.2))], ((some (.vec 67 t66 x14) : Option E) = some (E.ren (renL [(900000, 900000)] 602) (.vec 67 t66 x14)))] (by kernel_rfl) ⟨(by kernel_rfl), (c40s0 h_y16), (by kernel_rfl), trivial⟩ ?_
    replace h := Option.some.inj h
    subst h
    exact ⟨rfl, by kernel_rfl⟩
  · replace h := bif_f h hb
    refine Run.keep (s' := ⟨[(2, (.d t2 x8)), (3, (.ptr 100 0)), (4, (.ptr 101 0)), (6, (.ptr 102 0))], [(100, (.box (.vcons (.d t25 x10) (.vcons (.vec 900000 t66) .vnil)))), (101, (.box (.vcons (.d t25 x11) .vnil))), (102, (.box (.vcons (.d t60 x12) .vnil))), (900000, (.vec 67 t66 x14))]⟩) [2, 3, 4, 6] [100, 101, 102, 900000] (by kernel_rfl) ?_
    refine Run.skipN (by kernel_rfl) ?_
    replace h := Option.some.inj h
    subst h
    exact ⟨rfl, by kernel_rfl⟩

def f41s0_c2_post (x18 : Int) (x19 : Bool) (x20 : Int × Int × Int) (x21 : Int × Int × Int) (x22 : (Int × Int × Int) × (List (Int × (Int × Int × Int) × (Int × Int) × Int))) (x23 : List (Int × (Int × Int × Int) × (Int × Int) × Int)) : ((Int × Int × Int) × (List (Int × (Int × Int × Int) × (Int × Int) × Int))) → Ex → St → Prop
  | o, x, s => x = .nrm ∧ s = ⟨[(3, (.ptr 100 0)), (6, (.ptr 102 0))], [(100, (.box (.vcons (.d t25 o.1) (.vcons (.vec 900000 t66) .vnil)))), (102, (.box (.vcons (.d t60 x22) .vnil))), (900000, (.vec 67 t66 o.2))]⟩

def f41s0_c2 (x18 : Int) (x19 : Bool) (x20 : Int × Int × Int) (x21 : Int × Int × Int) (x23 : List (Int × (Int × Int × Int) × (Int × Int) × Int)) : Option ((Int × Int × Int) × (List (Int × (Int × Int × Int) × (Int × Int) × Int))) :=
  (bif x19 then
    (F40s0 x20 x21 x18 x23).bind fun y25 =>
    some (y25.1, y25.2)
  else
    some (x20, x23))

theorem f41s0_c2_ok (x18 : Int) (x19 : Bool) (x20 : Int × Int × Int) (x21 : Int × Int × Int) (x22 : (Int × Int × Int) × (List (Int × (Int × Int × Int) × (Int × Int) × Int))) (x23 : List (Int × (Int × Int × Int) × (Int × Int) × Int)) {out : ((Int × Int × Int) × (List (Int × (Int × Int × Int) × (Int × Int) × Int)))} (h : f41s0_c2 x18 x19 x20 x21 x23 = some out) : Run Pg 30 (sq2 (sq1 (sq2 (sq2 (sq2 (sq2 c_41)))))) ⟨[(2, (.d t2 x18)), (3, (.ptr 100 0)), (4, (.ptr 101 0)), (6, (.ptr 102 0)), (24, (.d t4 x19))], [(100, (.box (.vcons (.d t25 x20) (.vcons (.vec 900000 t66) .vnil)))), (101, (.box (.vcons (.d t25 x21) .vnil))), (102, (.box (.vcons (.d t60 x22) .vnil))), (900000, (.vec 67 t66 x23))]⟩ (f41s0_c2_post x18 x19 x20 x21 x22 x23 out) := by
  unfold f41s0_c2 at h
  refine Run.condN x19 (by kernel_rfl) (fun hb => ?_) (fun hb => ?_)
  · replace h := bif_t h hb
    obtain ⟨y25, h_y25, h⟩ := bnd_elim h
    refine Run.regE hX [(3, .callS [(900000, (.vec 67 t66 x23))] [(.agg (.vcons (.d t25 x20) (.vcons (.vec 900000 t66) .vnil))), (.d t25 x21), (.d t2 x18)] [(900000, 900000)] (.agg (.vcons (.d t25 y25.1) (.vcons (.vec 900000 t66) .vnil))) [(900000, (.vec 67 t66 y25.2))])] 800 [3, 6] [100, 102, 900000] ⟨[(3, (.ptr 100 0)), (6, (.ptr 102 0))], [(100, (.box (.vcons (.d t25 y25.1) (.vcons (.vec 900000 t66) .vnil)))), (102, (.box (.vcons (.d t60 x22) .vnil))), (900000, (.vec 67 t66 y25.2))]⟩ [(([(.agg (.vcons (.d t25 x20) (.vcons (.vec 900000 t66) .vnil))), (.d t25 x21), (.d t2 x18)] : List V) = List.map (V.ren (renL [(900000, 900000)] 803)) [(.agg (.vcons (.d t25 x20) (.vcons (.vec 900000 t66) .vnil))), (.d t25 x21), (.d t2 x18)]), CallSt Pg 40 [(.agg (.vcons (.d t25 x20) (.vcons (.vec 900000 t66) .vnil))), (.d t25 x21), (.d t2 x18)] [(900000, (.vec 67 t66 x23))] (.agg (.vcons (.d t25 y25.1) (.vcons (.vec 900000 t66) .vnil))) [(900000, (.vec 67 t66 y25.2))], ((some (.vec 67 t66 x23) : Option E) = some (E.ren (renL [(900000, 900000)] 803) (.vec 67 t66 x23)))] (by kernel_rfl) ⟨(by kernel_rfl), (c40s0 h_y25), (by kernel_rfl), trivial⟩ ?_
    replace h := Option.some.inj h
    subst h
    exact ⟨rfl, by kernel_rfl⟩
  · replace h := bif_f h hb
    refine Run.keep (s' := ⟨[(3, (.ptr 100 0)), (6, (.ptr 102 0))], [(100, (.box (.vcons (.d t25 x20) (.vcons (.vec 900000 t66) .vnil)))), (102, (.box (.vcons (.d t60 x22) .vnil))), (900000, (.vec 67 t66 x23))]⟩) [3, 6] [100, 102, 900000] (by kernel_rfl) ?_
    refine Run.skipN (by kernel_rfl) ?_
    replace h := Option.some.inj h
    subst h
    exact ⟨rfl, by kernel_rfl⟩

def F41s0 (a0 : Int × Int × Int) (a1 : Int × Int × Int) (a2 : Int) (a3 : List (Int × (Int × Int × Int) × (Int × Int) × Int)) : Option ((Int × Int × Int) × (List (Int × (Int × Int × Int) × (Int × Int) × Int))) :=
  ((f41s0_c0 (decide (a1.2.2 < (1000 : Int))) a1).bind fun o7 =>
    ((f41s0_c1 (decide (o7.2.2 < a0.2.2)) a0 o7 a3).bind fun o17 =>
      ((f41s0_c2 a2 (decide (a1.2.2 < (1000 : Int))) o17.1 a1 o17.2).bind fun o26 =>
        some (o26.1, o26.2))))

theorem c41s0 {a0 : Int × Int × Int} {a1 : Int × Int × Int} {a2 : Int} {a3 : List (Int × (Int × Int × Int) × (Int × Int) × Int)} {r : (Int × Int × Int) × (List (Int × (Int × Int × Int) × (Int × Int) × Int))} (h : F41s0 a0 a1 a2 a3 = some r) : CallSt Pg 41 [(.agg (.vcons (.d t25 a0) (.vcons (.vec 900000 t66) .vnil))), (.d t25 a1), (.d t2 a2)] [(900000, (.vec 67 t66 a3))] (.agg (.vcons (.d t25 r.1) (.vcons (.vec 900000 t66) .vnil))) [(900000, (.vec 67 t66 r.2))] := by
  refine callStR hX c_41 30 [.cell 6 78] [78] Go.Proofs.Try.func41 (by kernel_rfl) (by kernel_rfl) (by kernel_rfl) (Nat.le_of_ble_eq_true rfl)  ?_
  show Run Pg 30 c_41 ⟨[(0, (.agg (.vcons (.d t25 a0) (.vcons (.vec 900000 t66) .vnil)))), (1, (.d t25 a1)), (2, (.d t2 a2))], [(900000, (.vec 67 t66 a3))]⟩ (fin41s0 a3 r)
  unfold F41s0 at h
  refine Run.regN hX [] 100 [2, 3, 4, 6] [100, 101, 102, 900000] ⟨[(2, (.d t2 a2)), (3, (.ptr 100 0)), (4, (.ptr 101 0)), (6, (.ptr 102 0))], [(100, (.box (.vcons (.d t25 a0) (.vcons (.vec 900000 t66) .vnil)))), (101, (.box (.vcons (.d t25 a1) .vnil))), (102, (.box (.vcons (.d t60 (((0 : Int), (0 : Int), (0 : Int)), ([] : List (Int × (Int × Int × Int) × (Int × Int) × Int)))) .vnil))), (900000, (.vec 67 t66 a3))]⟩ [] (by kernel_rfl) (by kernel_rfl) trivial ?_
  refine Run.regN hX [] 200 [2, 3, 4, 6, 7] [100, 101, 102, 201, 900000] ⟨[(2, (.d t2 a2)), (3, (.ptr 100 0)), (4, (.ptr 101 0)), (6, (.ptr 102 0)), (7, (.ptr 201 0))], [(100, (.box (.vcons (.d t25 a0) (.vcons (.vec 900000 t66) .vnil)))), (101, (.box (.vcons (.d t25 a1) .vnil))), (102, (.box (.vcons (.d t60 (((0 : Int), (0 : Int), (0 : Int)), ([] : List (Int × (Int × Int × Int) × (Int × Int) × Int)))) .vnil))), (201, (.box (.vcons (.d t25 a1) .vnil))), (900000, (.vec 67 t66 a3))]⟩ [] (by kernel_rfl) (by kernel_rfl) trivial ?_
  refine Run.seqN (by kernel_rfl) ?_
  refine Run.regN hX [] 300 [2, 3, 4, 6, 7, 11] [100, 101, 102, 201, 900000] ⟨[(2, (.d t2 a2)), (3, (.ptr 100 0)), (4, (.ptr 101 0)), (6, (.ptr 102 0)), (7, (.ptr 201 0)), (11, (.d t4 (decide (a1.2.2 < (1000 : Int)))))], [(100, (.box (.vcons (.d t25 a0) (.vcons (.vec 900000 t66) .vnil)))), (101, (.box (.vcons (.d t25 a1) .vnil))), (102, (.box (.vcons (.d t60 (((0 : Int), (0 : Int), (0 : Int)), ([] : List (Int × (Int × Int × Int) × (Int × Int) × Int)))) .vnil))), (201, (.box (.vcons (.d t25 a1) .vnil))), (900000, (.vec 67 t66 a3))]⟩ [] (by kernel_rfl) (by kernel_rfl) trivial ?_
  obtain ⟨o7, h_o7, h⟩ := bnd_elim h
  refine Run.mono (f41s0_c0_ok a2 (decide (a1.2.2 < (1000 : Int))) a0 a1 (((0 : Int), (0 : Int), (0 : Int)), ([] : List (Int × (Int × Int × Int) × (Int × Int) × Int))) a3 h_o7) ?_
  rintro x s ⟨hx, hs⟩
  subst hx
  subst hs
  show Run Pg 30 _ _ _
  refine Run.seqN (by kernel_rfl) ?_
  refine Run.regN hX [] 500 [2, 3, 4, 6, 7, 18] [100, 101, 102, 201, 900000] ⟨[(2, (.d t2 a2)), (3, (.ptr 100 0)), (4, (.ptr 101 0)), (6, (.ptr 102 0)), (7, (.ptr 201 0)), (18, (.d t4 (decide (o7.2.2 < a0.2.2))))], [(100, (.box (.vcons (.d t25 a0) (.vcons (.vec 900000 t66) .vnil)))), (101, (.box (.vcons (.d t25 a1) .vnil))), (102, (.box (.vcons (.d t60 (((0 : Int), (0 : Int), (0 : Int)), ([] : List (Int × (Int × Int × Int) × (Int × Int) × Int)))) .vnil))), (201, (.box (.vcons (.d t25 o7) .vnil))), (900000, (.vec 67 t66 a3))]⟩ [] (by kernel_rfl) (by kernel_rfl) trivial ?_
  obtain ⟨o17, h_o17, h⟩ := bnd_elim h
  refine Run.mono (f41s0_c1_ok a2 (decide (o7.2.2 < a0.2.2)) a0 a1 (((0 : Int), (0 : Int), (0 : Int)), ([] : List (Int × (Int × Int × Int) × (Int × Int) × Int))) o7 a3 h_o17) ?_
  rintro x s ⟨hx, hs⟩
  subst hx
  subst hs
  show Run Pg 30 _ _ _
  refine Run.seqN (by kernel_rfl) ?_
  refine Run.regN hX [] 700 [2, 3, 4, 6, 24] [100, 101, 102, 900000] ⟨[(2, (.d t2 a2)), (3, (.ptr 100 0)), (4, (.ptr 101 0)), (6, (.ptr 102 0)), (24, (.d t4 (decide (a1.2.2 < (1000 : Int)))))], [(100, (.box (.vcons (.d t25 o17.1) (.vcons (.vec 900000 t66) .vnil)))), (101, (.box (.vcons (.d t25 a1) .vnil))), (102, (.box (.vcons (.d t60 (((0 : Int), (0 : Int), (0 : Int)), ([] : List (Int × (Int × Int × Int) × (Int × Int) × Int)))) .vnil))), (900000, (.vec 67 t66 o17.2))]⟩ [] (by kernel_rfl) (by kernel_rfl) trivial ?_
  obtain ⟨o26, h_o26, h⟩ := bnd_elim h
  refine Run.mono (f41s0_c2_ok a2 (decide (a1.2.2 < (1000 : Int))) o17.1 a1 (((0 : Int), (0 : Int), (0 : Int)), ([] : List (Int × (Int × Int × Int) × (Int × Int) × Int))) o17.2 h_o26) ?_
  rintro x s ⟨hx, hs⟩
  subst hx
  subst hs
  show Run Pg 30 _ _ _
  refine Run.regN hX [] 900 [6] [102, 900000] ⟨[(6, (.ptr 102 0))], [(102, (.box (.vcons (.d t25 o26.1) (.vcons (.vec 900000 t66) .vnil)))), (900000, (.vec 67 t66 o26.2))]⟩ [] (by kernel_rfl) (by kernel_rfl) trivial ?_
  refine Run.retN (by kernel_rfl) ?_
  replace h := Option.some.inj h
  subst h
  exact ⟨[(.agg (.vcons (.d t25 o26.1) (.vcons (.vec 900000 t66) .vnil)))], ⟨[], [(900000, (.vec 67 t66 o26.2))]⟩, by kernel_rfl, by kernel_rfl, by kernel_rfl, by kernel_rfl⟩

/-! ## f17 -/

noncomputable def c_17 : Code := body0 Go.Proofs.Try.f17

def fin17 (r : (List (Int × (Int × Int × Int) × (Int × Int) × Int))) : Ex → St → Prop := endK X0 [.tmp 10] [31] (.d t31 r)

def f17_l0_post (x2 : Int) (x3 : Int) (x4 : List (Int × Int)) (x6 : Int × Int × Int) : ((List (Int × (Int × Int × Int) × (Int × Int) × Int)) × (Int × Int × Int)) → Ex → St → Prop
  | o, x, s => x = .out 0 ∧ s = ⟨[(3, (.d t2 x3)), (6, (.ptr 101 0)), (11, (.ptr 209 0))], [(101, (.box (.vcons (.d t25 x6) .vnil))), (201, (.vec 67 t66 o.1)), (209, (.box (.vcons (.d t25 o.2) (.vcons (.vec 201 t66) .vnil))))]⟩

def f17_l0_b (x2 : Int) (x4 : List (Int × Int)) (again : Int × (List (Int × (Int × Int × Int) × (Int × Int) × Int)) × (Int × Int × Int) → Option ((List (Int × (Int × Int × Int) × (Int × Int) × Int)) × (Int × Int × Int))) : Int × (List (Int × (Int × Int × Int) × (Int × Int) × Int)) × (Int × Int × Int) → Option ((List (Int × (Int × Int × Int) × (Int × Int) × Int)) × (Int × Int × Int))
  | (x5, x7, x8) =>
    (bif (decide (x5 < (ofN (List.length x4)))) then
      gd (0 ≤ x5) <|
      gd (x5 < ((List.length x4 : Nat) : Int)) <|
      gd (0 ≤ x5) <|
      gd (x5 < ((List.length x4 : Nat) : Int)) <|
      (F40s0 x8 ((List.getD x4 (toN x5) ((0 : Int), (0 : Int))).1, (List.getD x4 (toN x5) ((0 : Int), (0 : Int))).2, x2) (0 : Int) x7).bind fun y10 =>
      again ((wrapI .i64 (x5 + (1 : Int))), y10.2, y10.1)
    else
      some (x7, x8))

def f17_l0 (x2 : Int) (x4 : List (Int × Int)) : Nat → Int × (List (Int × (Int × Int × Int) × (Int × Int) × Int)) × (Int × Int × Int) → Option ((List (Int × (Int × Int × Int) × (Int × Int) × Int)) × (Int × Int × Int)) := loopF (f17_l0_b x2 x4)

theorem f17_l0_ok (x2 : Int) (x3 : Int) (x4 : List (Int × Int)) (x6 : Int × Int × Int) (k : Nat) (x5 : Int) (x7 : List (Int × (Int × Int × Int) × (Int × Int) × Int)) (x8 : Int × Int × Int) {out : ((List (Int × (Int × Int × Int) × (Int × Int) × Int)) × (Int × Int × Int))} (h : f17_l0 x2 x4 k (x5, x7, x8) = some out) : Run Pg 47 (bk1 (sq2 (sq1 (sq2 (sq2 c_17))))) ⟨[(2, (.d t2 x2)), (3, (.d t2 x3)), (4, (.d t45 x4)), (6, (.ptr 101 0)), (11, (.ptr 209 0)), (12, (.d t2 x5))], [(101, (.box (.vcons (.d t25 x6) .vnil))), (201, (.vec 67 t66 x7)), (209, (.box (.vcons (.d t25 x8) (.vcons (.vec 201 t66) .vnil))))]⟩ (f17_l0_post x2 x3 x4 x6 out) := by
  refine Run.loopN (by kernel_rfl) (fun m s => ∃ x5 x7 x8, s = ⟨[(2, (.d t2 x2)), (3, (.d t2 x3)), (4, (.d t45 x4)), (6, (.ptr 101 0)), (11, (.ptr 209 0)), (12, (.d t2 x5))], [(101, (.box (.vcons (.d t25 x6) .vnil))), (201, (.vec 67 t66 x7)), (209, (.box (.vcons (.d t25 x8) (.vcons (.vec 201 t66) .vnil))))]⟩ ∧ f17_l0 x2 x4 m (x5, x7, x8) = some out) ?_ k ⟨x5, x7, x8,  rfl, h⟩
  rintro m s ⟨x5, x7, x8,  rfl, h⟩
  cases m with
  | zero => cases h
  | succ m =>
  replace h : f17_l0_b x2 x4 (f17_l0 x2 x4 m) (x5, x7, x8) = some out := h
  unfold f17_l0_b at h
  refine Run.seqN (by kernel_rfl) ?_
  refine Run.regN hX [] 400 [2, 3, 4, 6, 11, 12, 25] [101, 201, 209] ⟨[(2, (.d t2 x2)), (3, (.d t2 x3)), (4, (.d t45 x4)), (6, (.ptr 101 0)), (11, (.ptr 209 0)), (12, (.d t2 x5)), (25, (.d t4 (decide (x5 < (ofN (List.length x4))))))], [(101, (.box (.vcons (.d t25 x6) .vnil))), (201, (.vec 67 t66 x7)), (209, (.box (.vcons (.d t25 x8) (.vcons (.vec 201 t66) .vnil))))]⟩ [] (by kernel_rfl) (by kernel_rfl) trivial ?_
  refine Run.condN (decide (x5 < (ofN (List.length x4)))) (by kernel_rfl) (fun hb => ?_) (fun hb => ?_)
  · replace h := bif_t h hb
    refine Run.skipN (by kernel_rfl) ?_
    show Run Pg 47 _ _ _
    refine Run.seqN (by kernel_rfl) ?_
    refine Run.blockN 1 (by kernel_rfl) ?_
    obtain ⟨g_0, h⟩ := gd_elim h
    obtain ⟨g_1, h⟩ := gd_elim h
    obtain ⟨g_2, h⟩ := gd_elim h
    obtain ⟨g_3, h⟩ := gd_elim h
    obtain ⟨y10, h_y10, h⟩ := bnd_elim h
    refine Run.regE hX [(13, .callS [(900000, (.vec 67 t66 x7))] [(.agg (.vcons (.d t25 x8) (.vcons (.vec 900000 t66) .vnil))), (.d t25 ((List.getD x4 (toN x5) ((0 : Int), (0 : Int))).1, (List.getD x4 (toN x5) ((0 : Int), (0 : Int))).2, x2)), (.d t2 (0 : Int))] [(900000, 201)] (.agg (.vcons (.d t25 y10.1) (.vcons (.vec 900000 t66) .vnil))) [(900000, (.vec 67 t66 y10.2))])] 600 [2, 3, 4, 6, 11, 12] [101, 201, 209] ⟨[(2, (.d t2 x2)), (3, (.d t2 x3)), (4, (.d t45 x4)), (6, (.ptr 101 0)), (11, (.ptr 209 0)), (12, (.d t2 x5))], [(101, (.box (.vcons (.d t25 x6) .vnil))), (201, (.vec 67 t66 y10.2)), (209, (.box (.vcons (.d t25 y10.1) (.vcons (.vec 201 t66) .vnil))))]⟩ [(0 ≤ x5), (x5 < ((List.length x4 : Nat) : Int)), (0 ≤ x5), (x5 < ((List.length x4 : Nat) : Int)), (([(.agg (.vcons (.d t25 x8) (.vcons (.vec 201 t66) .vnil))), (.d t25 ((List.getD x4 (toN x5) ((0 : Int), (0 : Int))).1, (List.getD x4 (toN x5) ((0 : Int), (0 : Int))).2, x2)), (.d t2 (0 : Int))] : List V) = List.map (V.ren (renL [(900000, 201)] 613)) [(.agg (.vcons (.d t25 x8) (.vcons (.vec 900000 t66) .vnil))), (.d t25 ((List.getD x4 (toN x5) ((0 : Int), (0 : Int))).1, (List.getD x4 (toN x5) ((0 : Int), (0 : Int))).2, x2)), (.d t2 (0 : Int))]), CallSt Pg 40 [(.agg (.vcons (.d t25 x8) (.vcons (.vec 900000 t66) .vnil))), (.d t25 ((List.getD x4 (toN x5) ((0 : Int), (0 : Int))).1, (List.getD x4 (toN x5) ((0 : Int), (0 : Int))).2, x2)), (.d t2 (0 : Int))] [(900000, (.vec 67 t66 x7))] (.agg (.vcons (.d t25 y10.1) (.vcons (.vec 900000 t66) .vnil))) [(900000, (.vec 67 t66 y10.2))], ((some (.vec 67 t66 x7) : Option E) = some (E.ren (renL [(900000, 201)] 613) (.vec 67 t66 x7)))] (by kernel_rfl) ⟨g_0, g_1, g_2, g_3, (by kernel_rfl), (c40s0 h_y10), (by kernel_rfl), trivial⟩ ?_
    show Run Pg 47 _ _ _
    refine Run.regE hX [] 500 [2, 3, 4, 6, 11, 12] [101, 201, 209] ⟨[(2, (.d t2 x2)), (3, (.d t2 x3)), (4, (.d t45 x4)), (6, (.ptr 101 0)), (11, (.ptr 209 0)), (12, (.d t2 (wrapI .i64 (x5 + (1 : Int)))))], [(101, (.box (.vcons (.d t25 x6) .vnil))), (201, (.vec 67 t66 y10.2)), (209, (.box (.vcons (.d t25 y10.1) (.vcons (.vec 201 t66) .vnil))))]⟩ [] (by kernel_rfl) trivial ?_
    exact ⟨m, Nat.lt_succ_self m, _, _, _, rfl, h⟩
  · replace h := bif_f h hb
    refine Run.keep (s' := ⟨[(3, (.d t2 x3)), (6, (.ptr 101 0)), (11, (.ptr 209 0))], [(101, (.box (.vcons (.d t25 x6) .vnil))), (201, (.vec 67 t66 x7)), (209, (.box (.vcons (.d t25 x8) (.vcons (.vec 201 t66) .vnil))))]⟩) [3, 6, 11] [101, 201, 209] (by kernel_rfl) ?_
    refine Run.exitN 0 (by kernel_rfl) ?_
    replace h := Option.some.inj h
    subst h
    exact ⟨rfl, by kernel_rfl⟩

def F17 (a0 : Int × Int × Int) (a1 : Int × Int × Int) (a2 : Int) (a3 : Int) (a4 : List (Int × Int)) : Option ((List (Int × (Int × Int × Int) × (Int × Int) × Int))) :=
  (F40s0 a0 (a0.1, a0.2.1, a2) (0 : Int) ([] : List (Int × (Int × Int × Int) × (Int × Int) × Int))).bind fun y1 =>
  ((f17_l0 a2 a4 (2 + List.length a4 + List.length y1.2) ((0 : Int), y1.2, y1.1)).bind fun o11 =>
    (F41s0 o11.2 a1 a3 o11.1).bind fun y12 =>
    some y12.2)

theorem c17 {a0 : Int × Int × Int} {a1 : Int × Int × Int} {a2 : Int} {a3 : Int} {a4 : List (Int × Int)} {r : (List (Int × (Int × Int × Int) × (Int × Int) × Int))} (h : F17 a0 a1 a2 a3 a4 = some r) : CallPure Pg 17 [(.d t25 a0), (.d t25 a1), (.d t2 a2), (.d t2 a3), (.d t45 a4)] (.d t31 r) := by
  refine callPureN hX c_17 47 [.tmp 10] [31] Go.Proofs.Try.func17 (by kernel_rfl) (by kernel_rfl) (by kernel_rfl) (Nat.le_of_ble_eq_true rfl) rfl rfl ?_
  show Run Pg 47 c_17 ⟨[(0, (.d t25 a0)), (1, (.d t25 a1)), (2, (.d t2 a2)), (3, (.d t2 a3)), (4, (.d t45 a4))], []⟩ (fin17 r)
  unfold F17 at h
  refine Run.regN hX [] 100 [2, 3, 4, 5, 6] [100, 101] ⟨[(2, (.d t2 a2)), (3, (.d t2 a3)), (4, (.d t45 a4)), (5, (.ptr 100 0)), (6, (.ptr 101 0))], [(100, (.box (.vcons (.d t25 a0) .vnil))), (101, (.box (.vcons (.d t25 a1) .vnil)))]⟩ [] (by kernel_rfl) (by kernel_rfl) trivial ?_
  obtain ⟨y1, h_y1, h⟩ := bnd_elim h
  refine Run.regN hX [(1, .callO 67 t66 []), (8, .callS [(900000, (.vec 67 t66 ([] : List (Int × (Int × Int × Int) × (Int × Int) × Int))))] [(.agg (.vcons (.d t25 a0) (.vcons (.vec 900000 t66) .vnil))), (.d t25 (a0.1, a0.2.1, a2)), (.d t2 (0 : Int))] [(900000, 201)] (.agg (.vcons (.d t25 y1.1) (.vcons (.vec 900000 t66) .vnil))) [(900000, (.vec 67 t66 y1.2))])] 200 [2, 3, 4, 6, 11] [101, 201, 209] ⟨[(2, (.d t2 a2)), (3, (.d t2 a3)), (4, (.d t45 a4)), (6, (.ptr 101 0)), (11, (.ptr 209 0))], [(101, (.box (.vcons (.d t25 a1) .vnil))), (201, (.vec 67 t66 y1.2)), (209, (.box (.vcons (.d t25 y1.1) (.vcons (.vec 201 t66) .vnil))))]⟩ [(([(.agg (.vcons (.d t25 a0) (.vcons (.vec 201 t66) .vnil))), (.d t25 (a0.1, a0.2.1, a2)), (.d t2 (0 : Int))] : List V) = List.map (V.ren (renL [(900000, 201)] 208)) [(.agg (.vcons (.d t25 a0) (.vcons (.vec 900000 t66) .vnil))), (.d t25 (a0.1, a0.2.1, a2)), (.d t2 (0 : Int))]), CallSt Pg 40 [(.agg (.vcons (.d t25 a0) (.vcons (.vec 900000 t66) .vnil))), (.d t25 (a0.1, a0.2.1, a2)), (.d t2 (0 : Int))] [(900000, (.vec 67 t66 ([] : List (Int × (Int × Int × Int) × (Int × Int) × Int))))] (.agg (.vcons (.d t25 y1.1) (.vcons (.vec 900000 t66) .vnil))) [(900000, (.vec 67 t66 y1.2))], ((some (.vec 67 t66 ([] : List (Int × (Int × Int × Int) × (Int × Int) × Int))) : Option E) = some (E.ren (renL [(900000, 201)] 208) (.vec 67 t66 ([] : List (Int × (Int × Int × Int) × (Int × Int) × Int)))))] (by kernel_rfl) (by kernel_rfl) ⟨(by kernel_rfl), (c40s0 h_y1), (by kernel_rfl), trivial⟩ ?_
  refine Run.seqN (by kernel_rfl) ?_
  refine Run.regN hX [] 300 [2, 3, 4, 6, 11, 12] [101, 201, 209] ⟨[(2, (.d t2 a2)), (3, (.d t2 a3)), (4, (.d t45 a4)), (6, (.ptr 101 0)), (11, (.ptr 209 0)), (12, (.d t2 (0 : Int)))], [(101, (.box (.vcons (.d t25 a1) .vnil))), (201, (.vec 67 t66 y1.2)), (209, (.box (.vcons (.d t25 y1.1) (.vcons (.vec 201 t66) .vnil))))]⟩ [] (by kernel_rfl) (by kernel_rfl) trivial ?_
  refine Run.blockN 0 (by kernel_rfl) ?_
  obtain ⟨o11, h_o11, h⟩ := bnd_elim h
  refine Run.mono (f17_l0_ok a2 a3 a4 a1 _ (0 : Int) y1.2 y1.1 h_o11) ?_
  rintro x s ⟨hx, hs⟩
  subst hx
  subst hs
  show Run Pg 47 _ _ _
  obtain ⟨y12, h_y12, h⟩ := bnd_elim h
  refine Run.regN hX [(3, .callS [(900000, (.vec 67 t66 o11.1))] [(.agg (.vcons (.d t25 o11.2) (.vcons (.vec 900000 t66) .vnil))), (.d t25 a1), (.d t2 a3)] [(900000, 201)] (.agg (.vcons (.d t25 y12.1) (.vcons (.vec 900000 t66) .vnil))) [(900000, (.vec 67 t66 y12.2))])] 700 [10] [201] ⟨[(10, (.vec 201 t66))], [(201, (.vec 67 t66 y12.2))]⟩ [(([(.agg (.vcons (.d t25 o11.2) (.vcons (.vec 201 t66) .vnil))), (.d t25 a1), (.d t2 a3)] : List V) = List.map (V.ren (renL [(900000, 201)] 703)) [(.agg (.vcons (.d t25 o11.2) (.vcons (.vec 900000 t66) .vnil))), (.d t25 a1), (.d t2 a3)]), CallSt Pg 41 [(.agg (.vcons (.d t25 o11.2) (.vcons (.vec 900000 t66) .vnil))), (.d t25 a1), (.d t2 a3)] [(900000, (.vec 67 t66 o11.1))] (.agg (.vcons (.d t25 y12.1) (.vcons (.vec 900000 t66) .vnil))) [(900000, (.vec 67 t66 y12.2))], ((some (.vec 67 t66 o11.1) : Option E) = some (E.ren (renL [(900000, 201)] 703) (.vec 67 t66 o11.1)))] (by kernel_rfl) (by kernel_rfl) ⟨(by kernel_rfl), (c41s0 h_y12), (by kernel_rfl), trivial⟩ ?_
  refine Run.freeze (s' := ⟨[(10, (.d t31 y12.2))], []⟩) 201 (by kernel_rfl) ?_
  refine Run.retN (by kernel_rfl) ?_
  replace h := Option.some.inj h
  subst h
  exact ⟨[(.d t31 y12.2)], by kernel_rfl, by kernel_rfl⟩

/-! ## f16 -/

noncomputable def c_16 : Code := body0 Go.Proofs.Try.f16

def fin16 (r : Bool) : Ex → St → Prop := endK X0 [.tmp 4] [4] (.d t4 r)

def f16_l0_post (x1 : List (Int × (Int × Int × Int) × (Int × Int) × Int)) (x2 : List (Int × (Int × Int × Int) × (Int × Int) × Int)) : ((Unit) ⊕ (Bool)) → Ex → St → Prop
  | .inl o, x, s => x = .out 0 ∧ s = ⟨[], []⟩
  | .inr o, x, s => x = .ret ∧ fin16  o x s

def f16_l0_b (x1 : List (Int × (Int × Int × Int) × (Int × Int) × Int)) (x2 : List (Int × (Int × Int × Int) × (Int × Int) × Int)) (again : Int → Option ((Unit) ⊕ (Bool))) : Int → Option ((Unit) ⊕ (Bool))
  | x3 =>
    (bif (decide (x3 < (ofN (List.length x1)))) then
      gd (0 ≤ x3) <|
      gd (x3 < ((List.length x1 : Nat) : Int)) <|
      gd (0 ≤ x3) <|
      gd (x3 < ((List.length x2 : Nat) : Int)) <|
      (bif (!(eqD t66 (List.getD x1 (toN x3) ((0 : Int), ((0 : Int), (0 : Int), (0 : Int)), ((0 : Int), (0 : Int)), (0 : Int))) (List.getD x2 (toN x3) ((0 : Int), ((0 : Int), (0 : Int), (0 : Int)), ((0 : Int), (0 : Int)), (0 : Int))))) then
        some (.inr false)
      else
        again (wrapI .i64 (x3 + (1 : Int))))
    else
      some (.inl ()))

def f16_l0 (x1 : List (Int × (Int × Int × Int) × (Int × Int) × Int)) (x2 : List (Int × (Int × Int × Int) × (Int × Int) × Int)) : Nat → Int → Option ((Unit) ⊕ (Bool)) := loopF (f16_l0_b x1 x2)

theorem f16_l0_ok (x1 : List (Int × (Int × Int × Int) × (Int × Int) × Int)) (x2 : List (Int × (Int × Int × Int) × (Int × Int) × Int)) (k : Nat) (x3 : Int) {out : ((Unit) ⊕ (Bool))} (h : f16_l0 x1 x2 k x3 = some out) : Run Pg 26 (bk1 (sq2 (sq1 (sq2 (sq2 c_16))))) ⟨[(0, (.d t31 x1)), (1, (.d t31 x2)), (5, (.d t2 x3))], []⟩ (f16_l0_post x1 x2 out) := by
  refine Run.loopN (by kernel_rfl) (fun m s => ∃ x3, s = ⟨[(0, (.d t31 x1)), (1, (.d t31 x2)), (5, (.d t2 x3))], []⟩ ∧ f16_l0 x1 x2 m x3 = some out) ?_ k ⟨x3,  rfl, h⟩
  rintro m s ⟨x3,  rfl, h⟩
  cases m with
  | zero => cases h
  | succ m =>
  replace h : f16_l0_b x1 x2 (f16_l0 x1 x2 m) x3 = some out := h
  unfold f16_l0_b at h
  refine Run.seqN (by kernel_rfl) ?_
  refine Run.regN hX [] 500 [0, 1, 5, 14] [] ⟨[(0, (.d t31 x1)), (1, (.d t31 x2)), (5, (.d t2 x3)), (14, (.d t4 (decide (x3 < (ofN (List.length x1))))))], []⟩ [] (by kernel_rfl) (by kernel_rfl) trivial ?_
  refine Run.condN (decide (x3 < (ofN (List.length x1)))) (by kernel_rfl) (fun hb => ?_) (fun hb => ?_)
  · replace h := bif_t h hb
    refine Run.skipN (by kernel_rfl) ?_
    show Run Pg 26 _ _ _
    refine Run.seqN (by kernel_rfl) ?_
    refine Run.blockN 1 (by kernel_rfl) ?_
    obtain ⟨g_0, h⟩ := gd_elim h
    obtain ⟨g_1, h⟩ := gd_elim h
    obtain ⟨g_2, h⟩ := gd_elim h
    obtain ⟨g_3, h⟩ := gd_elim h
    refine Run.regN hX [] 700 [0, 1, 5, 25] [] ⟨[(0, (.d t31 x1)), (1, (.d t31 x2)), (5, (.d t2 x3)), (25, (.d t4 (!(eqD t66 (List.getD x1 (toN x3) ((0 : Int), ((0 : Int), (0 : Int), (0 : Int)), ((0 : Int), (0 : Int)), (0 : Int))) (List.getD x2 (toN x3) ((0 : Int), ((0 : Int), (0 : Int), (0 : Int)), ((0 : Int), (0 : Int)), (0 : Int)))))))], []⟩ [(0 ≤ x3), (x3 < ((List.length x1 : Nat) : Int)), (0 ≤ x3), (x3 < ((List.length x2 : Nat) : Int))] (by kernel_rfl) (by kernel_rfl) ⟨g_0, g_1, g_2, g_3, trivial⟩ ?_
    refine Run.condN (!(eqD t66 (List.getD x1 (toN x3) ((0 : Int), ((0 : Int), (0 : Int), (0 : Int)), ((0 : Int), (0 : Int)), (0 : Int))) (List.getD x2 (toN x3) ((0 : Int), ((0 : Int), (0 : Int), (0 : Int)), ((0 : Int), (0 : Int)), (0 : Int))))) (by kernel_rfl) (fun hb => ?_) (fun hb => ?_)
    · replace h := bif_t h hb
      refine Run.regN hX [] 800 [4] [] ⟨[(4, (.d t4 false))], []⟩ [] (by kernel_rfl) (by kernel_rfl) trivial ?_
      refine Run.retN (by kernel_rfl) ?_
      replace h := Option.some.inj h
      subst h
      exact ⟨rfl, [(.d t4 false)], by kernel_rfl, by kernel_rfl⟩
    · replace h := bif_f h hb
      refine Run.skipN (by kernel_rfl) ?_
      show Run Pg 26 _ _ _
      refine Run.regE hX [] 600 [0, 1, 5] [] ⟨[(0, (.d t31 x1)), (1, (.d t31 x2)), (5, (.d t2 (wrapI .i64 (x3 + (1 : Int)))))], []⟩ [] (by kernel_rfl) trivial ?_
      exact ⟨m, Nat.lt_succ_self m, _, rfl, h⟩
  · replace h := bif_f h hb
    refine Run.keep (s' := ⟨[], []⟩) [] [] (by kernel_rfl) ?_
    refine Run.exitN 0 (by kernel_rfl) ?_
    replace h := Option.some.inj h
    subst h
    exact ⟨rfl, by kernel_rfl⟩

def F16 (a0 : List (Int × (Int × Int × Int) × (Int × Int) × Int)) (a1 : List (Int × (Int × Int × Int) × (Int × Int) × Int)) : Option (Bool) :=
  (bif ((ofN (List.length a0)) != (ofN (List.length a1))) then
    some false
  else
    ((f16_l0 a0 a1 (2 + List.length a0 + List.length a1) (0 : Int)).bind fun o4 => match o4 with
      | .inl o5 =>
          some true
      | .inr o6 =>
          some o6))

theorem c16 {a0 : List (Int × (Int × Int × Int) × (Int × Int) × Int)} {a1 : List (Int × (Int × Int × Int) × (Int × Int) × Int)} {r : Bool} (h : F16 a0 a1 = some r) : CallPure Pg 16 [(.d t31 a0), (.d t31 a1)] (.d t4 r) := by
  refine callPureN hX c_16 26 [.tmp 4] [4] Go.Proofs.Try.func16 (by kernel_rfl) (by kernel_rfl) (by kernel_rfl) (Nat.le_of_ble_eq_true rfl) rfl rfl ?_
  show Run Pg 26 c_16 ⟨[(0, (.d t31 a0)), (1, (.d t31 a1))], []⟩ (fin16 r)
  unfold F16 at h
  refine Run.regN hX [] 100 [0, 1] [] ⟨[(0, (.d t31 a0)), (1, (.d t31 a1))], []⟩ [] (by kernel_rfl) (by kernel_rfl) trivial ?_
  refine Run.seqN (by kernel_rfl) ?_
  refine Run.regN hX [] 200 [0, 1, 10] [] ⟨[(0, (.d t31 a0)), (1, (.d t31 a1)), (10, (.d t4 ((ofN (List.length a0)) != (ofN (List.length a1)))))], []⟩ [] (by kernel_rfl) (by kernel_rfl) trivial ?_
  refine Run.condN ((ofN (List.length a0)) != (ofN (List.length a1))) (by kernel_rfl) (fun hb => ?_) (fun hb => ?_)
  · replace h := bif_t h hb
    refine Run.regN hX [] 300 [4] [] ⟨[(4, (.d t4 false))], []⟩ [] (by kernel_rfl) (by kernel_rfl) trivial ?_
    refine Run.retN (by kernel_rfl) ?_
    replace h := Option.some.inj h
    subst h
    exact ⟨[(.d t4 false)], by kernel_rfl, by kernel_rfl⟩
  · replace h := bif_f h hb
    refine Run.skipN (by kernel_rfl) ?_
    show Run Pg 26 _ _ _
    refine Run.seqN (by kernel_rfl) ?_
    refine Run.regN hX [] 400 [0, 1, 5] [] ⟨[(0, (.d t31 a0)), (1, (.d t31 a1)), (5, (.d t2 (0 : Int)))], []⟩ [] (by kernel_rfl) (by kernel_rfl) trivial ?_
    refine Run.blockN 0 (by kernel_rfl) ?_
    obtain ⟨o4, h_o4, h⟩ := bnd_elim h
    refine Run.mono (f16_l0_ok a0 a1 _ (0 : Int) h_o4) ?_
    rcases o4 with o5 | o6
    · rintro x s ⟨hx, hs⟩
      subst hx
      subst hs
      show Run Pg 26 _ _ _
      refine Run.regN hX [] 900 [4] [] ⟨[(4, (.d t4 true))], []⟩ [] (by kernel_rfl) (by kernel_rfl) trivial ?_
      refine Run.retN (by kernel_rfl) ?_
      replace h := Option.some.inj h
      subst h
      exact ⟨[(.d t4 true)], by kernel_rfl, by kernel_rfl⟩
    · rintro x s ⟨hx, hr⟩
      subst hx
      replace h := Option.some.inj h
      subst h
      exact hr


end Go.Sw
