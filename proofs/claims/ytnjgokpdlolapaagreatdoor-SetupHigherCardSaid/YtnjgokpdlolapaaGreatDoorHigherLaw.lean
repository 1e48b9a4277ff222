/- The Lean function of SetupHigher is true at every input; no conditions. -/
import Derived.Test.YtnjgokpdlolapaaGreatDoorAwb
namespace Go.Sw
open Go Go.Sw
set_option linter.unusedSimpArgs false
set_option linter.unusedVariables false

/-! ## f7 -/

def F7  : Option (Bool) :=
 some true

theorem c7 {r : Bool} (h : F7 = some r) : CallPure Pg 7 [] (.d t4 r) := by
  obtain rfl : true = r := Option.some.inj h
  exact awake_pure

/-! ## f6 -/

noncomputable def c_6 : Code := body0 Go.Proofs.Tryz.f6

def fin6 (r : Bool) : Ex → St → Prop := endK X0 [.tmp 4] [4] (.d t4 r)

def f6_l0_post (x7 : List Int) (x8 : List Int) (x9 : Int) : ((Unit) ⊕ (Bool)) → Ex → St → Prop
 | .inl o, x, s => x = .out 0 ∧ s = ⟨[], []⟩
 | .inr o, x, s => x = .ret ∧ fin6  o x s

def f6_l0_b (x7 : List Int) (x8 : List Int) (x9 : Int) (again : Int → Option ((Unit) ⊕ (Bool))) : Int → Option ((Unit) ⊕ (Bool))
 | x10 =>
 (bif (decide (x10 < x9)) then
 gd (0 ≤ x10) <|
 gd (x10 < ((List.length x7 : Nat) : Int)) <|
 gd (0 ≤ x10) <|
 gd (x10 < ((List.length x8 : Nat) : Int)) <|
 (bif ((List.getD x7 (toN x10) (0 : Int)) != (List.getD x8 (toN x10) (0 : Int))) then
 some (.inr false)
 else
 again (wrapI .i64 (x10 + (1 : Int))))
 else
 some (.inl ()))

def f6_l0 (x7 : List Int) (x8 : List Int) (x9 : Int) : Nat → Int → Option ((Unit) ⊕ (Bool)) := loopF (f6_l0_b x7 x8 x9)

theorem f6_l0_ok (x7 : List Int) (x8 : List Int) (x9 : Int) (k : Nat) (x10 : Int) {out : ((Unit) ⊕ (Bool))} (h : f6_l0 x7 x8 x9 k x10 = some out) : Run Pg 42 (bk1 (sq2 (sq1 (sq2 (sq2 (sq2 (sq2 c_6))))))) ⟨[(5, (.d t39 x7)), (6, (.d t39 x8)), (28, (.d t2 x9)), (29, (.d t2 x10))], []⟩ (f6_l0_post x7 x8 x9 out) := by
  refine Run.loopN (by kernel_rfl) (fun m s => ∃ x10, s = ⟨[(5, (.d t39 x7)), (6, (.d t39 x8)), (28, (.d t2 x9)), (29, (.d t2 x10))], []⟩ ∧ f6_l0 x7 x8 x9 m x10 = some out) ?_ k ⟨x10,  rfl, h⟩
  rintro m s ⟨x10,  rfl, h⟩
  cases m with
  | zero => cases h
  | succ m =>
  replace h : f6_l0_b x7 x8 x9 (f6_l0 x7 x8 x9 m) x10 = some out := h
  unfold f6_l0_b at h
  refine Run.rN hX [] 800 [5, 6, 28, 29, 30] [] ⟨[(5, (.d t39 x7)), (6, (.d t39 x8)), (28, (.d t2 x9)), (29, (.d t2 x10)), (30, (.d t4 (decide (x10 < x9))))], []⟩ aN ?_
  refine Run.sq ?_
  refine Run.cd (decide (x10 < x9)) (fun hb => ?_) (fun hb => ?_)
  · replace h := bif_t h hb
    refine Run.sk ?_
    show Run Pg 42 _ _ _
    refine Run.sq ?_
    refine Run.bl 1 ?_
    refine Run.rN hX [] 900 [5, 6, 7, 28, 29] [] ⟨[(5, (.d t39 x7)), (6, (.d t39 x8)), (7, (.d t2 x10)), (28, (.d t2 x9)), (29, (.d t2 x10))], []⟩ aN ?_
    obtain ⟨g_0, h⟩ := gd_elim h
    obtain ⟨g_1, h⟩ := gd_elim h
    obtain ⟨g_2, h⟩ := gd_elim h
    obtain ⟨g_3, h⟩ := gd_elim h
    refine Run.rN hX [] 1000 [5, 6, 28, 29, 40] [] ⟨[(5, (.d t39 x7)), (6, (.d t39 x8)), (28, (.d t2 x9)), (29, (.d t2 x10)), (40, (.d t4 ((List.getD x7 (toN x10) (0 : Int)) != (List.getD x8 (toN x10) (0 : Int)))))], []⟩ (aC g_0 (aC g_1 (aC g_2 (aC g_3 aN)))) ?_
    refine Run.cd ((List.getD x7 (toN x10) (0 : Int)) != (List.getD x8 (toN x10) (0 : Int))) (fun hb => ?_) (fun hb => ?_)
    · replace h := bif_t h hb
      refine Run.rN hX [] 1100 [4] [] ⟨[(4, (.d t4 false))], []⟩ aN ?_
      refine Run.rt ?_
      obtain rfl := sI h
      exact ⟨rfl, [(.d t4 false)], by kernel_rfl, by kernel_rfl⟩
    · replace h := bif_f h hb
      refine Run.sk ?_
      show Run Pg 42 _ _ _
      refine Run.rE hX [] 1200 [5, 6, 28, 29] [] ⟨[(5, (.d t39 x7)), (6, (.d t39 x8)), (28, (.d t2 x9)), (29, (.d t2 (wrapI .i64 (x10 + (1 : Int)))))], []⟩ aN ?_
      exact ⟨m, Nat.lt_succ_self m, _, rfl, h⟩
  · replace h := bif_f h hb
    refine Run.kp (s' := ⟨[], []⟩) [] [] ?_
    refine Run.ex 0 ?_
    obtain rfl := sI h
    exact ⟨rfl, by kernel_rfl⟩

def F6 (a0 : Int × Int × Int × Int × Int × Int × (List (Int × Int × Int × Int × Int)) × Int) (a1 : Int) : Option (Bool) :=
 (F7 ).bind fun y1 =>
 (bif (!y1) then
 (F7 ).bind fun y3 =>
 some y3
 else
 (F15 a0).bind fun y2 =>
 (bif (!y2) then
 (F7 ).bind fun y4 =>
 some y4
 else
 (F16 a0 a1).bind fun y5 =>
 (F17 a0 a1).bind fun y6 =>
 (bif ((ofN (List.length y5)) != (ofN (List.length y6))) then
 some false
 else
 ((f6_l0 y5 y6 (ofN (List.length y5)) (2 + List.length y5 + List.length y6) (0 : Int)).bind fun o11 => match o11 with
 | .inl o12 =>
 some true
 | .inr o13 =>
 some o13))))

theorem c6 {a0 : Int × Int × Int × Int × Int × Int × (List (Int × Int × Int × Int × Int)) × Int} {a1 : Int} {r : Bool} (h : F6 a0 a1 = some r) : CallPure Pg 6 [(.d t23 a0), (.d t2 a1)] (.d t4 r) := by
  refine callPureN hX c_6 42 [.tmp 4] [4] Go.Proofs.Tryz.func6 (by kernel_rfl) (by kernel_rfl) (by kernel_rfl) (Nat.le_of_ble_eq_true rfl) rfl rfl ?_
  show Run Pg 42 c_6 ⟨[(0, (.d t23 a0)), (1, (.d t2 a1))], []⟩ (fin6 r)
  unfold F6 at h
  refine Run.rN hX [] 100 [1, 2] [100] ⟨[(1, (.d t2 a1)), (2, (.ptr 100 0))], [(100, (.box 24 (.vcons (.d t23 a0) .vnil)))]⟩ aN ?_
  refine Run.sq ?_
  obtain ⟨y1, h_y1, h⟩ := bnd_elim h
  rcases bif_elim h with ⟨hb1, h⟩ | ⟨hb1, h⟩
  · refine Run.rN hX [(0, .call (.d t4 y1)), (2, .b true)] 200 [1, 2, 14] [100] ⟨[(1, (.d t2 a1)), (2, (.ptr 100 0)), (14, (.d t4 true))], [(100, (.box 24 (.vcons (.d t23 a0) .vnil)))]⟩ (aC (c7 h_y1) (aC hb1 aN)) ?_
    refine Run.cd true (fun hb => ?_) (fun hb => (by cases hb))
    obtain ⟨y3, h_y3, h⟩ := bnd_elim h
    refine Run.rN hX [(0, .call (.d t4 y3))] 300 [4] [] ⟨[(4, (.d t4 y3))], []⟩ (aC (c7 h_y3) aN) ?_
    refine Run.rt ?_
    obtain rfl := sI h
    exact ⟨[(.d t4 y3)], by kernel_rfl, by kernel_rfl⟩
  · obtain ⟨y2, h_y2, h⟩ := bnd_elim h
    refine Run.rN hX [(0, .call (.d t4 y1)), (2, .b false), (4, .call (.d t4 y2))] 200 [1, 2, 14] [100] ⟨[(1, (.d t2 a1)), (2, (.ptr 100 0)), (14, (.d t4 (!y2)))], [(100, (.box 24 (.vcons (.d t23 a0) .vnil)))]⟩ (aC (c7 h_y1) (aC hb1 (aC (c15 h_y2) aN))) ?_
    refine Run.cd (!y2) (fun hb => ?_) (fun hb => ?_)
    · replace h := bif_t h hb
      obtain ⟨y4, h_y4, h⟩ := bnd_elim h
      refine Run.rN hX [(0, .call (.d t4 y4))] 300 [4] [] ⟨[(4, (.d t4 y4))], []⟩ (aC (c7 h_y4) aN) ?_
      refine Run.rt ?_
      obtain rfl := sI h
      exact ⟨[(.d t4 y4)], by kernel_rfl, by kernel_rfl⟩
    · replace h := bif_f h hb
      refine Run.sk ?_
      show Run Pg 42 _ _ _
      obtain ⟨y5, h_y5, h⟩ := bnd_elim h
      obtain ⟨y6, h_y6, h⟩ := bnd_elim h
      refine Run.rN hX [(2, .call (.d t39 y5)), (5, .call (.d t39 y6))] 400 [5, 6] [] ⟨[(5, (.d t39 y5)), (6, (.d t39 y6))], []⟩ (aC (c16 h_y5) (aC (c17 h_y6) aN)) ?_
      refine Run.sq ?_
      refine Run.rN hX [] 500 [5, 6, 26] [] ⟨[(5, (.d t39 y5)), (6, (.d t39 y6)), (26, (.d t4 ((ofN (List.length y5)) != (ofN (List.length y6)))))], []⟩ aN ?_
      refine Run.cd ((ofN (List.length y5)) != (ofN (List.length y6))) (fun hb => ?_) (fun hb => ?_)
      · replace h := bif_t h hb
        refine Run.rN hX [] 600 [4] [] ⟨[(4, (.d t4 false))], []⟩ aN ?_
        refine Run.rt ?_
        obtain rfl := sI h
        exact ⟨[(.d t4 false)], by kernel_rfl, by kernel_rfl⟩
      · replace h := bif_f h hb
        refine Run.sk ?_
        show Run Pg 42 _ _ _
        refine Run.sq ?_
        refine Run.rN hX [] 700 [5, 6, 28, 29] [] ⟨[(5, (.d t39 y5)), (6, (.d t39 y6)), (28, (.d t2 (ofN (List.length y5)))), (29, (.d t2 (0 : Int)))], []⟩ aN ?_
        refine Run.bl 0 ?_
        obtain ⟨o11, h_o11, h⟩ := bnd_elim h
        refine Run.mono (f6_l0_ok y5 y6 (ofN (List.length y5)) _ (0 : Int) h_o11) ?_
        rcases o11 with o12 | o13
        · rintro _ _ ⟨rfl, rfl⟩
          show Run Pg 42 _ _ _
          refine Run.rN hX [] 1300 [4] [] ⟨[(4, (.d t4 true))], []⟩ aN ?_
          refine Run.rt ?_
          obtain rfl := sI h
          exact ⟨[(.d t4 true)], by kernel_rfl, by kernel_rfl⟩
        · rintro _ s ⟨rfl, hr⟩
          obtain rfl := sI h
          exact hr

end Go.Sw

namespace Go.Sw
set_option linter.unusedSimpArgs false
set_option linter.unusedVariables false

theorem wrapI_i64 {n : Int} (h1 : -9223372036854775808 ≤ n) (h2 : n ≤ 9223372036854775807) : wrapI .i64 n = n := by
  simp only [wrapI, IntKind.wrap, IntKind.signed, IntKind.bits]
  simp
  split <;> omega
theorem gd_true {α : Type} {p : Prop} [Decidable p] {k : Option α} (h : p) : gd p k = k := if_pos h
theorem bif_true {α : Type} {b : Bool} {x y : α} (h : b = true) : (bif b then x else y) = x := by subst h; rfl
theorem bif_false {α : Type} {b : Bool} {x y : α} (h : b = false) : (bif b then x else y) = y := by subst h; rfl
theorem wrap_succ {i : Nat} (h : i < 1073741825) : wrapI .i64 ((i : Int) + 1) = ((i + 1 : Nat) : Int) := by
  rw [wrapI_i64 (by omega) (by omega)]; rfl

theorem F29_some (a b : Int) : ∃ r, F29 a b = some r := by
  unfold F29
  cases decide (b ≤ a) <;> exact ⟨_, rfl⟩
theorem F28_some (a b c d : Int) : ∃ r, F28 a b c d = some r := by
  unfold F28
  obtain ⟨r1, h1⟩ := F29_some a (-10000000)
  obtain ⟨r2, h2⟩ := F29_some b (-10000000)
  obtain ⟨r3, h3⟩ := F29_some c (-10000000)
  obtain ⟨r4, h4⟩ := F29_some d (-10000000)
  rw [h1, h2, h3, h4]
  cases r1 <;> cases r2 <;> cases r3 <;> cases r4 <;> cases decide (a < c) <;> exact ⟨_, rfl⟩

abbrev SetupL := Int × Int × Int × Int × Int × Int × (List (Int × Int × Int × Int × Int)) × Int

theorem f11_l0_some (s : SetupL) (hn : s.2.2.2.2.2.2.1.length ≤ 1000) : ∀ (k i : Nat) (b : Bool), i ≤ s.2.2.2.2.2.2.1.length → s.2.2.2.2.2.2.1.length - i < k → ∃ r, f11_l0 s k (b, (i : Int)) = some r := by
  intro k
  induction k with
  | zero => intro i b h1 h2; omega
  | succ k ih =>
    intro i b h1 h2
    show ∃ r, f11_l0_b s (f11_l0 s k) (b, (i : Int)) = some r
    unfold f11_l0_b
    simp only
    by_cases hi : i < s.2.2.2.2.2.2.1.length
    · rw [bif_true (by simpa [ofN] using hi)]
      cases b with
      | false => exact ⟨_, rfl⟩
      | true =>
        rw [bif_true rfl, gd_true (by omega), gd_true (by omega), wrap_succ (by omega)]
        obtain ⟨r1, q1⟩ := F28_some (List.getD s.2.2.2.2.2.2.1 (toN (i : Int)) ((0 : Int), (0 : Int), (0 : Int), (0 : Int), (0 : Int))).1 (List.getD s.2.2.2.2.2.2.1 (toN (i : Int)) ((0 : Int), (0 : Int), (0 : Int), (0 : Int), (0 : Int))).2.1 (List.getD s.2.2.2.2.2.2.1 (toN (i : Int)) ((0 : Int), (0 : Int), (0 : Int), (0 : Int), (0 : Int))).2.2.1 (List.getD s.2.2.2.2.2.2.1 (toN (i : Int)) ((0 : Int), (0 : Int), (0 : Int), (0 : Int), (0 : Int))).2.2.2.1
        rw [q1, Option.bind_some]
        obtain ⟨r2, q2⟩ := F29_some (List.getD s.2.2.2.2.2.2.1 (toN (i : Int)) ((0 : Int), (0 : Int), (0 : Int), (0 : Int), (0 : Int))).2.2.2.2 (max2i (wrapI .i64 ((wrapI .i64 (0 - s.2.2.2.2.1)) - s.2.2.2.2.2.1)) (-10000000 : Int))
        rw [q2]
        cases r1 with
        | false => exact ih (i + 1) false (by omega) (by omega)
        | true =>
          rw [bif_true rfl, Option.bind_some]
          cases r2 with
          | false => exact ih (i + 1) false (by omega) (by omega)
          | true => exact ih (i + 1) _ (by omega) (by omega)
    · rw [bif_false (by simpa [ofN] using hi)]
      exact ⟨_, rfl⟩

theorem f11_l1_eq : f11_l1 = f11_l0 := rfl
theorem f11_l2_eq : f11_l2 = f11_l0 := rfl
theorem f11_l3_eq : f11_l3 = f11_l0 := rfl
theorem f11_l4_eq : f11_l4 = f11_l0 := rfl

theorem F11_some (s : SetupL) (hn : s.2.2.2.2.2.2.1.length ≤ 1000) : ∃ r, F11 s = some r := by
  unfold F11
  rw [f11_l1_eq, f11_l2_eq, f11_l3_eq, f11_l4_eq]
  obtain ⟨r1, h1⟩ := F28_some s.1 s.2.1 s.2.2.1 s.2.2.2.1
  obtain ⟨r2, h2⟩ := F29_some s.2.2.2.2.1 1
  obtain ⟨r3, h3⟩ := F29_some s.2.2.2.2.2.1 0
  obtain ⟨r4, h4⟩ := F29_some s.2.2.2.2.2.2.2 1
  have fin : ∀ b, ∃ r, f11_l0 s (2 + List.length s.2.2.2.2.2.2.1) (b, (0 : Int)) = some r := fun b => f11_l0_some s hn _ 0 b (by omega) (by omega)
  obtain ⟨q0, e0⟩ := fin false
  obtain ⟨q4, e4⟩ := fin r4
  rw [h1, h2, h3, h4, Option.bind_some, e0]
  cases r1 with
  | false => rw [bif_false rfl, Option.bind_some]; cases q0 <;> exact ⟨_, rfl⟩
  | true =>
    rw [bif_true rfl, Option.bind_some]
    cases r2 with
    | false => rw [bif_false rfl, Option.bind_some]; cases q0 <;> exact ⟨_, rfl⟩
    | true =>
      rw [bif_true rfl, Option.bind_some]
      cases r3 with
      | false => rw [bif_false rfl, Option.bind_some]; cases q0 <;> exact ⟨_, rfl⟩
      | true =>
        rw [bif_true rfl]
        cases decide ((ofN (List.length s.2.2.2.2.2.2.1)) ≤ (50 : Int)) with
        | false => rw [bif_false rfl, Option.bind_some]; cases q0 <;> exact ⟨_, rfl⟩
        | true => rw [bif_true rfl, Option.bind_some, e4, Option.bind_some]; cases q4 <;> exact ⟨_, rfl⟩

theorem F15_some (s : SetupL) : ∃ r, F15 s = some r ∧ (r = true → s.2.2.2.2.2.2.1.length ≤ 4) := by
  unfold F15
  by_cases h : s.2.2.2.2.2.2.1.length ≤ 4
  · rw [bif_true (decide_eq_true (by rw [ofN]; omega))]
    obtain ⟨r, hr⟩ := F11_some s (by omega)
    rw [hr]
    exact ⟨_, rfl, fun _ => h⟩
  · rw [bif_false (decide_eq_false (by rw [ofN]; omega))]
    exact ⟨_, rfl, fun h => by cases h⟩

theorem F17_eq : F17 = F16 := rfl

theorem f16_l0_some (a1 : Int) (L : List (Int × Int × Int × Int × Int)) (hn : L.length ≤ 1000) : ∀ (k i : Nat) (acc : List Int), i ≤ L.length → acc.length ≤ i → L.length - i < k → ∃ r, f16_l0 a1 L (ofN L.length) k ((i : Int), acc) = some r ∧ r.length ≤ L.length := by
  intro k
  induction k with
  | zero => intro i b h1 h2; omega
  | succ k ih =>
    intro i acc h1 h2 h3
    show ∃ r, f16_l0_b a1 L (ofN L.length) (f16_l0 a1 L (ofN L.length) k) ((i : Int), acc) = some r ∧ _
    unfold f16_l0_b
    simp only
    by_cases hi : i < L.length
    · rw [bif_true (by simpa [ofN] using hi), gd_true (by omega), gd_true (by omega), wrap_succ (by omega)]
      unfold f16_c1
      cases decide (a1 < (List.getD L (toN (i : Int)) ((0 : Int), (0 : Int), (0 : Int), (0 : Int), (0 : Int))).2.2.2.2) with
      | true =>
        rw [bif_true rfl, gd_true (by simp; omega), Option.bind_some]
        exact ih (i + 1) _ (by omega) (by simp; omega) (by omega)
      | false =>
        rw [bif_false rfl, Option.bind_some]
        exact ih (i + 1) _ (by omega) (by omega) (by omega)
    · rw [bif_false (by simpa [ofN] using hi)]
      exact ⟨_, rfl, by omega⟩

theorem F16_some (s : SetupL) (a1 : Int) (hn : s.2.2.2.2.2.2.1.length ≤ 1000) : ∃ r, F16 s a1 = some r ∧ r.length ≤ 1000 := by
  unfold F16
  obtain ⟨r, hr, hl⟩ := f16_l0_some a1 _ hn (2 + List.length s.2.2.2.2.2.2.1 + List.length ([] : List Int)) 0 [] (by omega) (by simp) (by simp)
  rw [show ((0 : Nat) : Int) = 0 from rfl] at hr
  rw [hr]
  exact ⟨r, rfl, by omega⟩

theorem f6_l0_some (y : List Int) (hn : y.length ≤ 1000) : ∀ (k i : Nat), i ≤ y.length → y.length - i < k → f6_l0 y y (ofN y.length) k (i : Int) = some (.inl ()) := by
  intro k
  induction k with
  | zero => intro i h1 h2; omega
  | succ k ih =>
    intro i h1 h2
    show f6_l0_b y y (ofN y.length) (f6_l0 y y (ofN y.length) k) (i : Int) = _
    unfold f6_l0_b
    by_cases hi : i < y.length
    · rw [bif_true (by simpa [ofN] using hi), gd_true (by omega), gd_true (by omega), gd_true (by omega), gd_true (by omega), bif_false (by simp), wrap_succ (by omega)]
      exact ih (i + 1) (by omega) (by omega)
    · rw [bif_false (by simpa [ofN] using hi)]

theorem truth6 (s : SetupL) (a1 : Int) : F6 s a1 = some true := by
  unfold F6 F7
  obtain ⟨r, hr, hl⟩ := F15_some s
  rw [hr, F17_eq]
  cases r with
  | false => rfl
  | true =>
    obtain ⟨y, hy, hyl⟩ := F16_some s a1 (by have := hl rfl; omega)
    rw [hy]
    have e := f6_l0_some y hyl (2 + List.length y + List.length y) 0 (by omega) (by omega)
    rw [show ((0 : Nat) : Int) = 0 from rfl] at e
    simp only [Option.bind_some, Bool.not_true, cond_false, Bool.not_false, cond_true, bne_self_eq_false, e]
end Go.Sw
