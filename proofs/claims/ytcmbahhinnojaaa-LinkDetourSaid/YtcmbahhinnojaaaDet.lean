/- The Lean function of LinkDetour is true at every input; no conditions. -/
import Derived.Test.YtcmbahhinnojaaaGd
import Derived.KernelRfl
namespace Go.Sw
set_option linter.unusedSimpArgs false
set_option linter.unusedVariables false

/-! ## plain words -/
theorem wrapI_i64 {n : Int} (h1 : -9223372036854775808 ≤ n) (h2 : n ≤ 9223372036854775807) : wrapI .i64 n = n := by
  simp only [wrapI, IntKind.wrap, IntKind.signed, IntKind.bits]
  simp
  split <;> omega
theorem wrapI_u64 {n : Int} (h1 : 0 ≤ n) (h2 : n ≤ 18446744073709551615) : wrapI .u64 n = n := by
  simp only [wrapI, IntKind.wrap, IntKind.signed, IntKind.bits]
  simp
  omega
theorem wrapI_u32 {n : Int} (h1 : 0 ≤ n) (h2 : n ≤ 4294967295) : wrapI .u32 n = n := by
  simp only [wrapI, IntKind.wrap, IntKind.signed, IntKind.bits]
  simp
  omega

theorem toN_eq (n : Int) : toN n = n.toNat := rfl
theorem ofN_eq (n : Nat) : ofN n = (n : Int) := rfl

theorem gd_true {α : Type} {p : Prop} [Decidable p] {k : Option α} (h : p) : gd p k = k := if_pos h
theorem bif_true {α : Type} {b : Bool} {x y : α} (h : b = true) : (bif b then x else y) = x := by subst h; rfl
theorem bif_false {α : Type} {b : Bool} {x y : α} (h : b = false) : (bif b then x else y) = y := by subst h; rfl

def Lim (l : List Int) : Prop := ∀ x ∈ l, 0 ≤ x ∧ x < 1000000000

/-- without zeros at the end -/
def trimL (l : List Int) : List Int := (l.reverse.dropWhile (· == 0)).reverse

theorem trimL_nil : trimL [] = [] := rfl
theorem trimL_zero (l : List Int) : trimL (l ++ [0]) = trimL l := by
  unfold trimL
  rw [List.reverse_append]
  rfl
theorem trimL_pos (l : List Int) {x : Int} (h : x ≠ 0) : trimL (l ++ [x]) = l ++ [x] := by
  unfold trimL
  rw [List.reverse_append]
  show (List.dropWhile (· == 0) (x :: l.reverse)).reverse = _
  rw [List.dropWhile_cons_of_neg (by simpa using h)]
  simp

def small (l : List Int) : Prop := l.length ≤ 1000000000

theorem getD_concat (l : List Int) (x d : Int) : List.getD (l ++ [x]) l.length d = x := by simp [List.getD]

theorem f90_l0_spec : ∀ (n : Nat) (a : List Int), a.length < n → small a → f90_l0 n a = some (trimL a) := by
  intro n
  induction n with
  | zero => intro a h; omega
  | succ n ih =>
    intro a h hs
    show f90_l0_b (f90_l0 n) a = _
    unfold f90_l0_b
    unfold small at hs
    rcases List.eq_nil_or_concat a with rfl | ⟨l, x, rfl⟩
    · rfl
    · have hl : (l.concat x).length = l.length + 1 := by simp
      have e1 : wrapI .i64 (ofN (l.concat x).length - 1) = (l.length : Int) := by
        rw [ofN_eq, hl, wrapI_i64] <;> omega
      rw [bif_true (by simp [ofN_eq, hl] <;> omega)]
      simp only [e1]
      rw [gd_true (by omega), gd_true (by rw [hl]; omega)]
      have e2 : List.getD (l.concat x) (toN (l.length : Int)) 0 = x := by
        rw [toN_eq, Int.toNat_natCast, List.concat_eq_append, getD_concat]
      simp only [e2]
      by_cases hx : x = 0
      · subst hx
        rw [bif_true (b := ((0 : Int) == 0)) rfl, gd_true (by omega), gd_true (by rw [hl]; omega)]
        have e3 : List.take (Int.toNat (l.length : Int)) (l.concat 0) = l := by simp
        rw [e3, ih l (by rw [hl] at h; omega) (by unfold small; rw [hl] at hs; omega), List.concat_eq_append, trimL_zero]
      · rw [bif_false (by simpa using hx), List.concat_eq_append, trimL_pos l hx]

theorem F90_spec {a : List Int} (hs : small a) : F90 a = some (trimL a) := by
  unfold F90
  rw [f90_l0_spec _ a (by omega) hs]
  rfl

end Go.Sw

namespace Go.Sw
set_option linter.unusedSimpArgs false
set_option linter.unusedVariables false

/-! ## loops that count -/
def runI {R : Type} (h : Nat → Option R) (fin : R) : Nat → Nat → R
  | _, 0 => fin
  | i, n + 1 => match h i with | some r => r | none => runI h fin (i + 1) n

theorem loop_int {R : Type} (B : (Int → Option R) → Int → Option R) (len : Nat) (h : Nat → Option R) (fin : R)
    (hB : ∀ again (i : Nat), i < len → B again (i : Int) = (match h i with | some r => some r | none => again ((i + 1 : Nat) : Int)))
    (hE : ∀ again, B again (len : Int) = some fin) : ∀ (n i f : Nat), i + n = len → n < f → loopF B f (i : Int) = some (runI h fin i n) := by
  intro n
  induction n with
  | zero =>
    intro i f hi hf
    obtain ⟨f, rfl⟩ : ∃ g, f = g + 1 := ⟨f - 1, by omega⟩
    obtain rfl : i = len := by omega
    exact hE _
  | succ n ih =>
    intro i f hi hf
    obtain ⟨f, rfl⟩ : ∃ g, f = g + 1 := ⟨f - 1, by omega⟩
    show B (loopF B f) (i : Int) = _
    rw [hB _ i (by omega)]
    cases hh : h i with
    | some r => simp only [runI, hh]
    | none => simp only [runI, hh]; exact ih (i + 1) f (by omega) (by omega)

def runS {S R : Type} (g : Nat → S → S ⊕ R) (fin : S → R) : Nat → Nat → S → R
  | _, 0, s => fin s
  | i, n + 1, s => match g i s with | .inl s' => runS g fin (i + 1) n s' | .inr r => r

theorem loop_st {S R : Type} (B : (Int × S → Option R) → Int × S → Option R) (len : Nat) (g : Nat → S → S ⊕ R) (fin : S → R) (Inv : Nat → S → Prop)
    (hB : ∀ again (i : Nat) s, i < len → Inv i s → B again ((i : Int), s) = (match g i s with | .inl s' => again (((i + 1 : Nat) : Int), s') | .inr r => some r))
    (hI : ∀ i s s', i < len → Inv i s → g i s = .inl s' → Inv (i + 1) s')
    (hE : ∀ again s, Inv len s → B again ((len : Int), s) = some (fin s)) :
    ∀ (n i f : Nat) s, i + n = len → n < f → Inv i s → loopF B f ((i : Int), s) = some (runS g fin i n s) := by
  intro n
  induction n with
  | zero =>
    intro i f s hi hf hs
    obtain ⟨f, rfl⟩ : ∃ g, f = g + 1 := ⟨f - 1, by omega⟩
    obtain rfl : i = len := by omega
    exact hE _ s hs
  | succ n ih =>
    intro i f s hi hf hs
    obtain ⟨f, rfl⟩ : ∃ g, f = g + 1 := ⟨f - 1, by omega⟩
    show B (loopF B f) ((i : Int), s) = _
    rw [hB _ i s (by omega) hs]
    cases hh : g i s with
    | inr r => simp only [runS, hh]
    | inl s' => simp only [runS, hh]; exact ih (i + 1) f s' (by omega) (by omega) (hI i s s' (by omega) hs hh)

/-- what holds at a loop's end -/
theorem runS_inv {S R : Type} {g : Nat → S → S ⊕ R} {fin : S → R} {len : Nat} (Inv : Nat → S → Prop) (Q : R → Prop)
    (hI : ∀ i s s', i < len → Inv i s → g i s = .inl s' → Inv (i + 1) s') (hR : ∀ i s r, i < len → Inv i s → g i s = .inr r → Q r) (hE : ∀ s, Inv len s → Q (fin s)) :
    ∀ (n i : Nat) s, i + n = len → Inv i s → Q (runS g fin i n s) := by
  intro n
  induction n with
  | zero => intro i s hi hs; obtain rfl : len = i := by omega
            exact hE s hs
  | succ n ih =>
    intro i s hi hs
    simp only [runS]
    cases hh : g i s with
    | inr r => exact hR i s r (by omega) hs hh
    | inl s' => exact ih (i + 1) s' (by omega) (hI i s s' (by omega) hs hh)

theorem runI_congr {R : Type} {h h' : Nat → Option R} {fin : R} : ∀ (n i : Nat), (∀ j, i ≤ j → j < i + n → h j = h' j) → runI h fin i n = runI h' fin i n := by
  intro n
  induction n with
  | zero => intro i _; rfl
  | succ n ih =>
    intro i hh
    simp only [runI]
    rw [hh i (by omega) (by omega), ih (i + 1) (fun j h1 h2 => hh j (by omega) (by omega))]

theorem wrap_succ {i : Nat} (h : i < 1073741825) : wrapI .i64 ((i : Int) + 1) = ((i + 1 : Nat) : Int) := by
  rw [wrapI_i64] <;> omega

theorem dec_lt {i n : Nat} (h : i < n) : decide ((i : Int) < ofN n) = true := by simp [ofN_eq]; exact h
theorem dec_nlt {i n : Nat} (h : n ≤ i) : decide ((i : Int) < ofN n) = false := by simp [ofN_eq]; exact h
end Go.Sw

namespace Go.Sw
set_option linter.unusedSimpArgs false
set_option linter.unusedVariables false

theorem runI_any {α R : Type} (l : List α) (d : α) (p : α → Bool) (x fin : R) : ∀ (n i : Nat), i + n = l.length →
    runI (fun i => if p (l.getD i d) = true then some x else none) fin i n = if (l.drop i).any p = true then x else fin := by
  intro n
  induction n with
  | zero =>
    intro i hi
    rw [List.drop_of_length_le (by omega)]
    rfl
  | succ n ih =>
    intro i hi
    simp only [runI]
    have hlt : i < l.length := by omega
    rw [ih (i + 1) (by omega), List.drop_eq_getElem_cons hlt, List.any_cons]
    have : l.getD i d = l[i] := by simp [List.getD, hlt]
    rw [this]
    cases p l[i] <;> simp

def far (n : Int) : Bool := decide ((10000000 : Int) < n) || decide (n < (-10000000 : Int))

theorem F24_spec (l : List Int) (hl : l.length ≤ 1000) : F24 l = some (l.any far) := by
  unfold F24
  have h := loop_int (f24_l0_b l (ofN l.length)) l.length (fun i => if far (l.getD i 0) = true then some (.inr true) else none) (.inl ())
    (fun again i hi => by
      unfold f24_l0_b
      show (bif decide ((i : Int) < _) then _ else _) = _
      rw [dec_lt hi]
      simp only [cond_true]
      rw [gd_true (by omega), gd_true (by omega), wrap_succ (by omega)]
      show (bif decide ((10000000 : Int) < List.getD l i 0) then _ else (bif decide (List.getD l i 0 < (-10000000 : Int)) then _ else _)) = _
      unfold far
      cases h1 : decide ((10000000 : Int) < List.getD l i 0) <;> cases h2 : decide (List.getD l i 0 < (-10000000 : Int)) <;> rfl)
    (fun again => by unfold f24_l0_b; show (bif decide (((l.length : Nat) : Int) < _) then _ else _) = _; rw [dec_nlt (Nat.le_refl _)]; rfl)
    l.length 0 (2 + l.length) (by omega) (by omega)
  show ((f24_l0 l (ofN l.length) (2 + l.length) (0 : Int)).bind _) = _
  unfold f24_l0
  rw [show (0 : Int) = ((0 : Nat) : Int) from rfl, h, runI_any l 0 far _ _ _ _ (by omega)]
  simp only [List.drop_zero, Option.bind_some]
  cases l.any far <;> rfl

theorem F31_spec (n : Int) : F31 n = some (far n) := by
  unfold F31 far
  cases h1 : decide ((10000000 : Int) < n) <;> simp [h1]

theorem F30_spec (p : Int × Int × Int) : F30 p = some (far p.1 || far p.2.1 || far p.2.2) := by
  unfold F30
  simp only [F31_spec, Option.bind_some]
  cases far p.1 <;> cases far p.2.1 <;> rfl

abbrev Clamp := Int × Int × Int × Int × Int
def Z5 : Clamp := ((0 : Int), (0 : Int), (0 : Int), (0 : Int), (0 : Int))
def bent (c : Clamp) : Bool := decide (c.2.2.1 < c.1) || decide (c.2.2.2.1 < c.2.1)
def farC (c : Clamp) : Bool := far c.1 || far c.2.1 || far c.2.2.1 || far c.2.2.2.1
def inC (c : Clamp) (p : Int × Int) : Bool := decide (c.1 < p.1) && decide (p.1 < c.2.2.1) && decide (c.2.1 < p.2) && decide (p.2 < c.2.2.2.1)

theorem F35_spec (c : Clamp) : F35 c = some (bent c) := by
  unfold F35 bent
  cases h1 : decide (c.2.2.1 < c.1) <;> simp [h1]

theorem F36_spec (c : Clamp) : F36 c = some (farC c) := by
  unfold F36 farC
  rw [F24_spec _ (by simp)]
  simp only [Option.bind_some, List.any_cons, List.any_nil, Bool.or_false, Bool.or_assoc]

theorem F54_spec (c : Clamp) (p : Int × Int) : F54 c p = some (inC c p) := by
  unfold F54 inC
  cases h1 : decide (c.1 < p.1) <;> cases h2 : decide (p.1 < c.2.2.1) <;> cases h3 : decide (c.2.1 < p.2) <;> simp [h1, h2, h3]

theorem runI_find {α : Type} (l : List α) (d : α) (p : α → Bool) : ∀ (n i : Nat), i + n = l.length →
    ∃ r : Unit ⊕ Int, runI (fun i => if p (l.getD i d) = true then some (.inr ((i : Nat) : Int)) else none) (.inl ()) i n = r ∧
      ((l.drop i).any p = false ∧ r = .inl () ∨ (l.drop i).any p = true ∧ ∃ j : Nat, r = .inr (j : Int)) := by
  intro n
  induction n with
  | zero =>
    intro i hi
    rw [List.drop_of_length_le (by omega)]
    exact ⟨_, rfl, .inl ⟨rfl, rfl⟩⟩
  | succ n ih =>
    intro i hi
    have hlt : i < l.length := by omega
    obtain ⟨r, h1, h2⟩ := ih (i + 1) (by omega)
    rw [List.drop_eq_getElem_cons hlt, List.any_cons]
    have e : l.getD i d = l[i] := by simp [List.getD, hlt]
    simp only [runI, e]
    cases hp : p l[i] with
    | true => exact ⟨_, rfl, .inr ⟨by simp, i, by simp⟩⟩
    | false =>
      simp only [Bool.false_eq_true, if_false, Bool.false_or]
      exact ⟨_, rfl, by rw [h1]; exact h2⟩

theorem F34s0_spec (l : List Clamp) (hl : l.length ≤ 1000) : F34s0 l = some (l.any bent) := by
  have h := loop_int (f55s0_l0_b l (ofN l.length)) l.length (fun i => if bent (l.getD i Z5) = true then some (.inr (i : Int)) else none) (.inl ())
    (fun again i hi => by
      unfold f55s0_l0_b
      show (bif decide ((i : Int) < _) then _ else _) = _
      rw [dec_lt hi]
      simp only [cond_true]
      rw [gd_true (by omega), gd_true (by omega), wrap_succ (by omega), F35_spec, Option.bind_some]
      show (bif bent (List.getD l i Z5) then _ else _) = _
      cases bent (List.getD l i Z5) <;> rfl)
    (fun again => by unfold f55s0_l0_b; show (bif decide (((l.length : Nat) : Int) < _) then _ else _) = _; rw [dec_nlt (Nat.le_refl _)]; rfl)
    l.length 0 (2 + l.length) (by omega) (by omega)
  obtain ⟨r, h1, h2⟩ := runI_find l Z5 bent l.length 0 (by omega)
  unfold F34s0 F55s0 f55s0_l0
  rw [show (0 : Int) = ((0 : Nat) : Int) from rfl, h, h1]
  rw [List.drop_zero] at h2
  rcases h2 with ⟨h2, rfl⟩ | ⟨h2, j, rfl⟩ <;> rw [h2] <;> simp

theorem F34s1_spec (l : List Clamp) (hl : l.length ≤ 1000) : F34s1 l = some (l.any farC) := by
  have h := loop_int (f55s1_l0_b l (ofN l.length)) l.length (fun i => if farC (l.getD i Z5) = true then some (.inr (i : Int)) else none) (.inl ())
    (fun again i hi => by
      unfold f55s1_l0_b
      show (bif decide ((i : Int) < _) then _ else _) = _
      rw [dec_lt hi]
      simp only [cond_true]
      rw [gd_true (by omega), gd_true (by omega), wrap_succ (by omega), F36_spec, Option.bind_some]
      show (bif farC (List.getD l i Z5) then _ else _) = _
      cases farC (List.getD l i Z5) <;> rfl)
    (fun again => by unfold f55s1_l0_b; show (bif decide (((l.length : Nat) : Int) < _) then _ else _) = _; rw [dec_nlt (Nat.le_refl _)]; rfl)
    l.length 0 (2 + l.length) (by omega) (by omega)
  obtain ⟨r, h1, h2⟩ := runI_find l Z5 farC l.length 0 (by omega)
  unfold F34s1 F55s1 f55s1_l0
  rw [show (0 : Int) = ((0 : Nat) : Int) from rfl, h, h1]
  rw [List.drop_zero] at h2
  rcases h2 with ⟨h2, rfl⟩ | ⟨h2, j, rfl⟩ <;> rw [h2] <;> simp

/-! ## Enters: its value, whatever it is -/
def lessV (s t : Int × Int) : Bool := decide ((wrapI .i64 (s.1 * t.2)) < (wrapI .i64 (t.1 * s.2)))
theorem F46_spec (s t : Int × Int) : F46 s t = some (lessV s t) := rfl
theorem F44_tot (s t : Int × Int) : ∃ r, F44 s t = some r := by
  unfold F44
  rw [F46_spec, Option.bind_some]
  cases lessV s t <;> exact ⟨_, rfl⟩
theorem F45_tot (s t : Int × Int) : ∃ r, F45 s t = some r := by
  unfold F45
  rw [F46_spec, Option.bind_some]
  cases lessV t s <;> exact ⟨_, rfl⟩
theorem F43s0_tot (a b c d : Int) (s t : Int × Int) : ∃ r, F43s0 a b c d s t = some r := by
  unfold F43s0
  cases h1 : (b == (0 : Int)) with
  | true =>
    simp only [cond_true]
    cases h2 : decide (c < a) <;> exact ⟨_, rfl⟩
  | false =>
    simp only [cond_false]
    obtain ⟨o, ho⟩ : ∃ o, f43s0_c0 a b c d (decide (b < 0)) ((wrapI .i64 (c - a)), b) ((wrapI .i64 (d - a)), b) = some o := by
      unfold f43s0_c0
      cases h3 : decide (b < (0 : Int)) <;> exact ⟨_, rfl⟩
    rw [ho, Option.bind_some]
    obtain ⟨r1, h1⟩ := F44_tot s o.1
    obtain ⟨r2, h2⟩ := F45_tot t o.2
    rw [h1, Option.bind_some, h2, Option.bind_some]
    exact ⟨_, rfl⟩
theorem F21_tot (c : Clamp) (p q : Int × Int) : ∃ r, F21 c p q = some r := by
  unfold F21
  cases h1 : decide (c.2.2.1 ≤ c.1) with
  | true => exact ⟨_, rfl⟩
  | false =>
    cases h2 : decide (c.2.2.2.1 ≤ c.2.1) with
    | true => exact ⟨_, rfl⟩
    | false =>
      simp only [cond_false]
      obtain ⟨r1, e1⟩ := F43s0_tot p.1 (wrapI .i64 (q.1 - p.1)) c.1 c.2.2.1 ((0 : Int), (1 : Int)) ((1 : Int), (1 : Int))
      rw [e1, Option.bind_some]
      cases h3 : (!r1.1) with
      | true => exact ⟨_, rfl⟩
      | false =>
        simp only [cond_false]
        obtain ⟨r2, e2⟩ := F43s0_tot p.2 (wrapI .i64 (q.2 - p.2)) c.2.1 c.2.2.2.1 r1.2.1 r1.2.2
        rw [e2, Option.bind_some]
        cases h4 : (!r2.1) with
        | true => exact ⟨_, rfl⟩
        | false =>
          simp only [cond_false]
          rw [F46_spec, Option.bind_some]
          exact ⟨_, rfl⟩

noncomputable def ent (c : Clamp) (p q : Int × Int) : Bool := (F21_tot c p q).choose
theorem F21_spec (c : Clamp) (p q : Int × Int) : F21 c p q = some (ent c p q) := (F21_tot c p q).choose_spec

theorem ent_same (c : Clamp) (p : Int × Int) : ent c p p = inC c p := by
  have h := F21_spec c p p
  have e0 : ∀ n : Int, wrapI .i64 (n - n) = 0 := by intro n; rw [Int.sub_self]; rfl
  have hs : ∀ (a b d : Int) (s t : Int × Int), F43s0 a (0 : Int) b d s t = some (decide (b < a) && decide (a < d), s, t) := by
    intro a b d s t
    unfold F43s0
    show (bif decide (b < a) then _ else _) = _
    cases h2 : decide (b < a) <;> simp
  unfold F21 at h
  rw [e0, e0, hs] at h
  simp only [Option.bind_some, hs] at h
  unfold inC
  by_cases g1 : c.2.2.1 ≤ c.1
  · rw [show decide (c.2.2.1 ≤ c.1) = true from decide_eq_true g1] at h
    have h5 := Option.some.inj h
    rw [← h5]
    cases h1 : decide (c.1 < p.1) <;> cases h2 : decide (p.1 < c.2.2.1) <;> simp
    simp only [decide_eq_true_eq] at h1 h2
    omega
  · rw [show decide (c.2.2.1 ≤ c.1) = false from decide_eq_false g1] at h
    simp only [cond_false] at h
    by_cases g2 : c.2.2.2.1 ≤ c.2.1
    · rw [show decide (c.2.2.2.1 ≤ c.2.1) = true from decide_eq_true g2] at h
      have h5 := Option.some.inj h
      rw [← h5]
      cases h3 : decide (c.2.1 < p.2) <;> cases h4 : decide (p.2 < c.2.2.2.1) <;> simp
      simp only [decide_eq_true_eq] at h3 h4
      omega
    · rw [show decide (c.2.2.2.1 ≤ c.2.1) = false from decide_eq_false g2] at h
      simp only [cond_false] at h
      cases h1 : decide (c.1 < p.1) <;> cases h2 : decide (p.1 < c.2.2.1) <;> cases h3 : decide (c.2.1 < p.2) <;> cases h4 : decide (p.2 < c.2.2.2.1) <;>
        (rw [h1, h2, h3, h4] at h; have h5 := Option.some.inj h; rw [← h5]; rfl)

theorem F37s0_spec (p q : Int × Int) (l : List Clamp) (hl : l.length ≤ 1000) : F37s0 p q l = some (!(l.any fun c => ent c p q)) := by
  have h := loop_int (f55s2_l0_b l (ofN l.length) p q) l.length (fun i => if ent (l.getD i Z5) p q = true then some (.inr ((i : Int), p, q)) else none) (.inl ())
    (fun again i hi => by
      unfold f55s2_l0_b
      show (bif decide ((i : Int) < _) then _ else _) = _
      rw [dec_lt hi]
      simp only [cond_true]
      rw [gd_true (by omega), gd_true (by omega), wrap_succ (by omega)]
      unfold F38s0
      rw [F21_spec]
      simp only [Option.bind_some]
      show (bif ent (List.getD l i Z5) p q then _ else _) = _
      cases ent (List.getD l i Z5) p q <;> rfl)
    (fun again => by unfold f55s2_l0_b; show (bif decide (((l.length : Nat) : Int) < _) then _ else _) = _; rw [dec_nlt (Nat.le_refl _)]; rfl)
    l.length 0 (2 + l.length) (by omega) (by omega)
  have key : ∀ (n i : Nat), i + n = l.length → ∃ r : Unit ⊕ (Int × (Int × Int) × (Int × Int)), runI (fun i => if ent (l.getD i Z5) p q = true then some (.inr ((i : Int), p, q)) else none) (.inl ()) i n = r ∧
      ((l.drop i).any (fun c => ent c p q) = false ∧ r = .inl () ∨ (l.drop i).any (fun c => ent c p q) = true ∧ ∃ j : Nat, r = .inr ((j : Int), p, q)) := by
    intro n
    induction n with
    | zero =>
      intro i hi
      rw [List.drop_of_length_le (by omega)]
      exact ⟨_, rfl, .inl ⟨rfl, rfl⟩⟩
    | succ n ih =>
      intro i hi
      have hlt : i < l.length := by omega
      obtain ⟨r, h1, h2⟩ := ih (i + 1) (by omega)
      rw [List.drop_eq_getElem_cons hlt, List.any_cons]
      have e : l.getD i Z5 = l[i] := by simp [List.getD, hlt]
      simp only [runI, e]
      cases hp : ent l[i] p q with
      | true => exact ⟨_, rfl, .inr ⟨by simp, i, by simp⟩⟩
      | false =>
        simp only [Bool.false_eq_true, if_false, Bool.false_or]
        exact ⟨_, rfl, by rw [h1]; exact h2⟩
  obtain ⟨r, h1, h2⟩ := key l.length 0 (by omega)
  unfold F37s0 F34s2 F55s2 f55s2_l0
  rw [show (0 : Int) = ((0 : Nat) : Int) from rfl, h, h1]
  rw [List.drop_zero] at h2
  rcases h2 with ⟨h2, rfl⟩ | ⟨h2, j, rfl⟩ <;> rw [h2] <;> simp
end Go.Sw

namespace Go.Sw
set_option linter.unusedSimpArgs false
set_option linter.unusedVariables false

abbrev Setup := Int × Int × Int × Int × Int × Int × (List Clamp) × Int
def clamps (s : Setup) : List Clamp := s.2.2.2.2.2.2.1

/-! ## the boxes at a height -/
def grow (r : Int) (c : Clamp) : Clamp := ((wrapI .i64 (c.1 - r)), (wrapI .i64 (c.2.1 - r)), (wrapI .i64 (c.2.2.1 + r)), (wrapI .i64 (c.2.2.2.1 + r)), c.2.2.2.2)
def highB (z : Int) (c : Clamp) : Bool := decide (z < (wrapI .i64 (c.2.2.2.2 + (1000 : Int))))
def blG (z r : Int) (l : List Clamp) (i : Nat) (acc : List Clamp) : List Clamp ⊕ List Clamp := .inl (bif highB z (l.getD i Z5) then acc ++ [grow r (l.getD i Z5)] else acc)
def bl (z r : Int) (l : List Clamp) : List Clamp := runS (blG z r l) id 0 l.length []

theorem blG_inv {z r : Int} {l : List Clamp} (i : Nat) (s s' : List Clamp) (hs : s.length ≤ i) (h : blG z r l i s = .inl s') : s'.length ≤ i + 1 := by
  unfold blG at h
  have := Sum.inl.inj h
  subst this
  cases highB z (l.getD i Z5) <;> simp <;> omega

theorem bl_length (z r : Int) (l : List Clamp) : (bl z r l).length ≤ l.length :=
  runS_inv (len := l.length) (fun i s => s.length ≤ i) (fun r => r.length ≤ l.length) (fun i s s' _ hs h => blG_inv i s s' hs h) (fun i s r _ _ h => by cases h) (fun s h => h) _ _ _ (by omega) (by simp)

theorem F19_spec (s : Setup) (z r : Int) (hl : (clamps s).length ≤ 1000) : F19 s z r = some (bl z r (clamps s)) := by
  have h := loop_st (f19_l0_b z r (clamps s) (ofN (clamps s).length)) (clamps s).length (blG z r (clamps s)) id (fun i s => s.length ≤ i)
    (fun again i acc hi hs => by
      unfold f19_l0_b
      show (bif decide ((i : Int) < _) then _ else _) = _
      rw [dec_lt hi]
      simp only [cond_true]
      rw [gd_true (by omega), gd_true (by omega), wrap_succ (by omega)]
      unfold f19_c1 blG
      show ((bif highB z (List.getD (clamps s) i Z5) then gd (List.length (acc ++ [grow r (List.getD (clamps s) i Z5)]) ≤ 1073741824) (some (acc ++ [grow r (List.getD (clamps s) i Z5)])) else some acc).bind _) = _
      rw [gd_true (by simp; omega)]
      cases highB z (List.getD (clamps s) i Z5) <;> rfl)
    (fun i s s' _ hs h => blG_inv i s s' hs h)
    (fun again acc _ => by unfold f19_l0_b; show (bif decide (((clamps s).length : Int) < _) then _ else _) = _; rw [dec_nlt (Nat.le_refl _)]; rfl)
    (clamps s).length 0 (2 + (clamps s).length) [] (by omega) (by omega) (by simp)
  unfold F19 f19_l0
  show ((loopF (f19_l0_b z r (clamps s) (ofN (clamps s).length)) (2 + (clamps s).length) (((0 : Nat) : Int), [])).bind _) = _
  rw [h]
  rfl

theorem F15_spec (s : Setup) (z r : Int) (hl : (clamps s).length ≤ 1000) : F15 s z r = some (bl z r (clamps s)) := by
  have h := loop_st (f15_l0_b z r s) (clamps s).length (blG z r (clamps s)) id (fun i s => s.length ≤ i)
    (fun again i acc hi hs => by
      unfold f15_l0_b
      show (bif decide ((i : Int) < ofN (clamps s).length) then _ else _) = _
      rw [dec_lt hi]
      simp only [cond_true]
      rw [gd_true (by omega), gd_true (show (i : Int) < ((List.length s.2.2.2.2.2.2.1 : Nat) : Int) from Int.ofNat_lt.2 (show i < (clamps s).length by omega)), wrap_succ (by omega)]
      unfold f15_c1 blG
      show ((bif highB z (List.getD (clamps s) i Z5) then gd (List.length (acc ++ [grow r (List.getD (clamps s) i Z5)]) ≤ 1073741824) (some (acc ++ [grow r (List.getD (clamps s) i Z5)])) else some acc).bind _) = _
      rw [gd_true (by simp; omega)]
      cases highB z (List.getD (clamps s) i Z5) <;> rfl)
    (fun i s s' _ hs h => blG_inv i s s' hs h)
    (fun again acc _ => by unfold f15_l0_b; show (bif decide (((clamps s).length : Int) < ofN (clamps s).length) then _ else _) = _; rw [dec_nlt (Nat.le_refl _)]; rfl)
    (clamps s).length 0 (2 + (clamps s).length) [] (by omega) (by omega) (by simp)
  unfold F15 f15_l0
  show ((loopF (f15_l0_b z r s) (2 + (clamps s).length + 0) (((0 : Nat) : Int), [])).bind _) = _
  rw [Nat.add_zero, h]
  rfl

/-! ## valid setups -/
def btw (n lo : Int) : Bool := decide (lo ≤ n) && decide (n ≤ (10000000 : Int))
theorem F48_spec (n lo : Int) : F48 n lo = some (btw n lo) := by
  unfold F48 btw
  cases decide (lo ≤ n) <;> rfl
theorem F50_spec (n lo : Int) : F50 n lo = some (btw n lo) := by
  unfold F50 btw
  cases decide (lo ≤ n) <;> rfl
def okR (a b c d : Int) : Bool := decide (a < c) && decide (b < d) && decide ((-10000000 : Int) ≤ a) && decide ((-10000000 : Int) ≤ b) && decide (c ≤ (10000000 : Int)) && decide (d ≤ (10000000 : Int))
theorem F49_spec (a b c d : Int) : F49 a b c d = some (okR a b c d) := by
  unfold F49 okR
  cases decide (a < c) <;> cases decide (b < d) <;> cases decide ((-10000000 : Int) ≤ a) <;> cases decide ((-10000000 : Int) ≤ b) <;> cases decide (c ≤ (10000000 : Int)) <;> rfl
theorem F47_spec (a b c d : Int) : F47 a b c d = some (okR a b c d) := by
  unfold F47
  simp only [F48_spec, Option.bind_some]
  have key : okR a b c d = (btw a (-10000000) && btw b (-10000000) && btw c (-10000000) && btw d (-10000000) && decide (a < c) && decide (b < d)) := by
    rw [Bool.eq_iff_iff]
    simp only [okR, btw, Bool.and_eq_true, decide_eq_true_eq]
    omega
  rw [key]
  cases btw a (-10000000) <;> cases btw b (-10000000) <;> cases btw c (-10000000) <;> cases btw d (-10000000) <;> cases decide (a < c) <;> rfl

def clOk (s : Setup) (c : Clamp) : Bool := okR c.1 c.2.1 c.2.2.1 c.2.2.2.1 && btw c.2.2.2.2 (max2i (wrapI .i64 ((wrapI .i64 (0 - s.2.2.2.2.1)) - s.2.2.2.2.2.1)) (-10000000 : Int)) && decide (c.2.2.2.2 < s.2.2.2.2.2.2.2)
def okS (s : Setup) : Bool := okR s.1 s.2.1 s.2.2.1 s.2.2.2.1 && btw s.2.2.2.2.1 1 && btw s.2.2.2.2.2.1 0 && btw s.2.2.2.2.2.2.2 1 && (clamps s).all (clOk s)

theorem runI_all {α R : Type} (l : List α) (d : α) (p : α → Bool) (x fin : R) (n i : Nat) (hi : i + n = l.length) :
    runI (fun i => if p (l.getD i d) = true then none else some x) fin i n = if (l.drop i).all p = true then fin else x := by
  have h := runI_any l d (fun a => !p a) x fin n i hi
  have e : (fun i => if p (l.getD i d) = true then none else some x) = (fun i => if (!p (l.getD i d)) = true then some x else none) := by
    funext i; cases p (l.getD i d) <;> rfl
  rw [e, h]
  have : (l.drop i).any (fun a => !p a) = !(l.drop i).all p := by simp [List.all_eq_not_any_not]
  rw [this]
  cases (l.drop i).all p <;> rfl

theorem F23_spec (s : Setup) (hl : (clamps s).length ≤ 50) : F23 s = some (bif okS s then (0 : Int) else 1) := by
  have h := loop_int (f23_l0_b (clamps s) (ofN (clamps s).length) s) (clamps s).length (fun i => if clOk s ((clamps s).getD i Z5) = true then none else some (.inr (1 : Int))) (.inl ())
    (fun again i hi => by
      unfold f23_l0_b
      show (bif decide ((i : Int) < _) then _ else _) = _
      rw [dec_lt hi]
      simp only [cond_true]
      rw [gd_true (by omega), gd_true (by omega), wrap_succ (by omega)]
      unfold F51
      simp only [F49_spec, F50_spec, Option.bind_some]
      have e : toN (i : Int) = i := rfl
      rw [e]
      show (bif (!(okR (List.getD (clamps s) i Z5).1 (List.getD (clamps s) i Z5).2.1 (List.getD (clamps s) i Z5).2.2.1 (List.getD (clamps s) i Z5).2.2.2.1)) then _ else
        (bif !(btw (List.getD (clamps s) i Z5).2.2.2.2 (max2i (wrapI .i64 ((wrapI .i64 (0 - s.2.2.2.2.1)) - s.2.2.2.2.2.1)) (-10000000 : Int))) then _ else (bif decide (s.2.2.2.2.2.2.2 ≤ (List.getD (clamps s) i Z5).2.2.2.2) then _ else _))) = _
      generalize List.getD (clamps s) i Z5 = c
      unfold clOk
      have e2 : decide (c.2.2.2.2 < s.2.2.2.2.2.2.2) = !(decide (s.2.2.2.2.2.2.2 ≤ c.2.2.2.2)) := by
        rw [← decide_not]; exact decide_eq_decide.2 (by omega)
      rw [e2]
      cases okR c.1 c.2.1 c.2.2.1 c.2.2.2.1 <;> cases btw c.2.2.2.2 (max2i (wrapI .i64 ((wrapI .i64 (0 - s.2.2.2.2.1)) - s.2.2.2.2.2.1)) (-10000000 : Int)) <;> cases decide (s.2.2.2.2.2.2.2 ≤ c.2.2.2.2) <;> rfl)
    (fun again => by unfold f23_l0_b; show (bif decide (((clamps s).length : Int) < _) then _ else _) = _; rw [dec_nlt (Nat.le_refl _)]; rfl)
    (clamps s).length 0 (2 + (clamps s).length) (by omega) (by omega)
  rw [runI_all (clamps s) Z5 (clOk s) _ _ _ _ (by omega), List.drop_zero] at h
  unfold F23 f23_l0
  simp only [F49_spec, F50_spec, Option.bind_some]
  have e3 : decide ((50 : Int) < ofN (List.length s.2.2.2.2.2.2.1)) = false := by
    rw [show List.length s.2.2.2.2.2.2.1 = (clamps s).length from rfl]
    exact decide_eq_false (by rw [ofN_eq]; omega)
  rw [e3]
  have h' : loopF (f23_l0_b s.2.2.2.2.2.2.1 (ofN (List.length s.2.2.2.2.2.2.1)) s) (2 + List.length s.2.2.2.2.2.2.1) (0 : Int) = _ := h
  rw [h']
  unfold okS
  cases okR s.1 s.2.1 s.2.2.1 s.2.2.2.1 <;> cases btw s.2.2.2.2.1 1 <;> cases btw s.2.2.2.2.2.1 0 <;> cases btw s.2.2.2.2.2.2.2 1 <;> cases (clamps s).all (clOk s) <;> rfl

theorem f22_l0_spec (s : Setup) (hl : (clamps s).length ≤ 50) : ∀ (n i f : Nat) (b : Bool), i + n = (clamps s).length → n < f → f22_l0 s f (b, (i : Int)) = some (b && ((clamps s).drop i).all (clOk s)) := by
  intro n
  induction n with
  | zero =>
    intro i f b hi hf
    obtain ⟨f, rfl⟩ : ∃ g, f = g + 1 := ⟨f - 1, by omega⟩
    show (bif decide ((i : Int) < ofN (clamps s).length) then _ else _) = _
    rw [dec_nlt (by omega), List.drop_of_length_le (by omega)]
    simp
  | succ n ih =>
    intro i f b hi hf
    obtain ⟨f, rfl⟩ : ∃ g, f = g + 1 := ⟨f - 1, by omega⟩
    have hlt : i < (clamps s).length := by omega
    show (bif decide ((i : Int) < ofN (clamps s).length) then (bif b then _ else _) else _) = _
    rw [dec_lt hlt]
    cases b with
    | false => rfl
    | true =>
      simp only [cond_true]
      rw [gd_true (by omega), gd_true (show (i : Int) < ((List.length s.2.2.2.2.2.2.1 : Nat) : Int) from Int.ofNat_lt.2 (show i < (clamps s).length by omega)), wrap_succ (by omega)]
      simp only [F47_spec, F48_spec, Option.bind_some]
      rw [List.drop_eq_getElem_cons hlt, List.all_cons]
      have e : (clamps s).getD i Z5 = (clamps s)[i] := by simp [List.getD, hlt]
      have ih2 := fun b => ih (i + 1) f b (by omega) (by omega)
      change ∀ b, loopF (f22_l0_b s) f (b, ((i + 1 : Nat) : Int)) = _ at ih2
      simp only [ih2]
      show (bif okR (List.getD (clamps s) i Z5).1 (List.getD (clamps s) i Z5).2.1 (List.getD (clamps s) i Z5).2.2.1 (List.getD (clamps s) i Z5).2.2.2.1 then
        (bif btw (List.getD (clamps s) i Z5).2.2.2.2 (max2i (wrapI .i64 ((wrapI .i64 (0 - s.2.2.2.2.1)) - s.2.2.2.2.2.1)) (-10000000 : Int)) then some (decide ((List.getD (clamps s) i Z5).2.2.2.2 < s.2.2.2.2.2.2.2) && ((clamps s).drop (i + 1)).all (clOk s)) else _) else _) = _
      rw [e]
      generalize (clamps s)[i] = c
      unfold clOk
      cases okR c.1 c.2.1 c.2.2.1 c.2.2.2.1 <;> cases btw c.2.2.2.2 (max2i (wrapI .i64 ((wrapI .i64 (0 - s.2.2.2.2.1)) - s.2.2.2.2.2.1)) (-10000000 : Int)) <;> simp

theorem F22_spec (s : Setup) (hl : (clamps s).length ≤ 50) : F22 s = some (bif okS s then (0 : Int) else 1) := by
  have h0 := fun b => f22_l0_spec s hl (clamps s).length 0 (2 + (clamps s).length) b (by omega) (by omega)
  have fls : ∀ (B : (Bool × Int → Option Bool) → Bool × Int → Option Bool) (f : Nat), (∀ again, B again (false, 0) = some false) → loopF B (2 + f) (false, 0) = some false := by
    intro B f hB
    rw [Nat.add_comm]
    exact hB _
  have e : ∀ {x : Bool} , (bif x then some false else some false) = some false := fun {x} => by cases x <;> rfl
  unfold F22
  simp only [F47_spec, F48_spec, Option.bind_some]
  have g1 : f22_l1 s (2 + List.length s.2.2.2.2.2.2.1) (false, (0 : Int)) = some false := fls _ _ fun again => e
  have g2 : f22_l2 s (2 + List.length s.2.2.2.2.2.2.1) (false, (0 : Int)) = some false := fls _ _ fun again => e
  have g3 : f22_l3 s (2 + List.length s.2.2.2.2.2.2.1) (false, (0 : Int)) = some false := fls _ _ fun again => e
  have g4 : f22_l4 s (2 + List.length s.2.2.2.2.2.2.1) (false, (0 : Int)) = some false := fls _ _ fun again => e
  have g0 : ∀ b, f22_l0 s (2 + List.length s.2.2.2.2.2.2.1) (b, (0 : Int)) = some (b && (clamps s).all (clOk s)) := h0
  rw [g1, g2, g3, g4, g0]
  have e3 : decide (ofN (List.length s.2.2.2.2.2.2.1) ≤ (50 : Int)) = true := by
    rw [show List.length s.2.2.2.2.2.2.1 = (clamps s).length from rfl]
    exact decide_eq_true (by rw [ofN_eq]; omega)
  rw [e3]
  unfold okS
  cases okR s.1 s.2.1 s.2.2.1 s.2.2.2.1 <;> cases btw s.2.2.2.2.1 1 <;> cases btw s.2.2.2.2.2.1 0 <;> cases btw s.2.2.2.2.2.2.2 1 <;> cases (clamps s).all (clOk s) <;> rfl
end Go.Sw

namespace Go.Sw
set_option linter.unusedSimpArgs false
set_option linter.unusedVariables false

/-! ## moves -/
abbrev Pos := Int × Int × Int
abbrev Move := Int × (Int × Int × Int) × (Int × Int) × Int
def kindOf (rate : Int) : Int := bif decide ((0 : Int) < rate) then 2 else 1
def mkMove (to : Pos) (rate : Int) : Move := (kindOf rate, to, ((0 : Int), (0 : Int)), rate)
def addM (p : Pos × List Move) (to : Pos) (rate : Int) : Pos × List Move := bif eqD t25 to p.1 then p else (to, p.2 ++ [mkMove to rate])

theorem addM_len (p : Pos × List Move) (to : Pos) (rate : Int) : (addM p to rate).2.length ≤ p.2.length + 1 := by
  unfold addM
  cases eqD t25 to p.1 <;> simp

theorem F40s0_spec (at' to : Pos) (rate : Int) (l : List Move) (hl : l.length ≤ 1000000) : F40s0 at' to rate l = some (addM (at', l) to rate) := by
  unfold F40s0 f40s0_c0 addM mkMove kindOf
  cases h1 : eqD t25 to at' with
  | true => rfl
  | false =>
    simp only [cond_false]
    cases decide ((0 : Int) < rate) <;> simp only [cond_true, cond_false, Option.bind_some] <;> rw [gd_true (by simp; omega)]

theorem F52s0_spec (to : Pos) (rate : Int) (at' : Pos) (l : List Move) (hr : 0 ≤ rate) (hl : l.length ≤ 1000000) : F52s0 to rate at' l = some (addM (at', l) to rate) := by
  unfold F52s0 f52s0_c0 addM mkMove kindOf
  cases h1 : eqD t25 to at' with
  | true => rfl
  | false =>
    simp only [cond_false]
    by_cases h2 : 0 < rate
    · rw [decide_eq_true h2]
      simp only [cond_true, Option.bind_some]
      rw [gd_true (by simp; omega)]
    · rw [decide_eq_false h2]
      obtain rfl : rate = 0 := by omega
      simp only [cond_false, Option.bind_some]
      rw [gd_true (by simp; omega)]

def descM (p : Pos × List Move) (z plunge : Int) : Pos × List Move :=
  let q := bif decide (max2i 1000 z < p.1.2.2) then addM p (p.1.1, p.1.2.1, max2i 1000 z) 0 else p
  bif decide (z < 1000) then (bif decide (z < q.1.2.2) then addM q (q.1.1, q.1.2.1, z) plunge else q) else q

theorem F26s0_spec (z : Int) (at' : Pos) (l : List Move) (hl : l.length ≤ 1000000) : F26s0 z at' l = some (addM (at', l) (at'.1, at'.2.1, z) 0) := by
  unfold F26s0
  rw [F52s0_spec _ _ _ _ (by omega) hl]
  rfl
theorem F27s0_spec (g : Int × Int) (at' : Pos) (l : List Move) (hl : l.length ≤ 1000000) : F27s0 g at' l = some (addM (at', l) (g.1, g.2, at'.2.2) 0) := by
  unfold F27s0
  rw [F52s0_spec _ _ _ _ (by omega) hl]
  rfl

theorem F28s0_spec (z plunge : Int) (at' : Pos) (l : List Move) (hp : 0 ≤ plunge) (hl : l.length ≤ 100000) : F28s0 z plunge at' l = some (descM (at', l) z plunge) := by
  unfold F28s0 f28s0_c0 f28s0_c1 descM
  rw [F26s0_spec _ _ _ (by omega)]
  have hl2 : (addM (at', l) (at'.1, at'.2.1, max2i 1000 z) 0).2.length ≤ 1000000 := by
    have := addM_len (at', l) (at'.1, at'.2.1, max2i 1000 z) 0
    simp only at this
    omega
  cases h1 : decide (max2i 1000 z < at'.2.2) with
  | true =>
    simp only [cond_true, Option.bind_some]
    cases h2 : decide (z < 1000) with
    | false => rfl
    | true =>
      simp only [cond_true]
      rw [F52s0_spec _ _ _ _ hp hl2]
      cases decide (z < (addM (at', l) (at'.1, at'.2.1, max2i 1000 z) 0).1.2.2) <;> rfl
  | false =>
    simp only [cond_false, Option.bind_some]
    cases h2 : decide (z < 1000) with
    | false => rfl
    | true =>
      simp only [cond_true]
      rw [F52s0_spec _ _ _ _ hp (by omega)]
      cases decide (z < at'.2.2) <;> rfl

/-- the reference's descent -/
def descR (p : Pos × List Move) (to : Pos) (plunge : Int) : Pos × List Move :=
  let stop : Pos := bif decide (to.2.2 < 1000) then (to.1, to.2.1, 1000) else to
  let q := bif decide (stop.2.2 < p.1.2.2) then addM p stop 0 else p
  bif decide (to.2.2 < 1000) then addM q to plunge else q

theorem F41s0_spec (at' to : Pos) (plunge : Int) (l : List Move) (hl : l.length ≤ 100000) : F41s0 at' to plunge l = some (descR (at', l) to plunge) := by
  unfold F41s0 f41s0_c0 f41s0_c1 f41s0_c2 descR
  have key : ∀ stop : Pos, (addM (at', l) stop 0).2.length ≤ 1000000 := by
    intro stop
    have := addM_len (at', l) stop 0
    simp only at this
    omega
  cases h1 : decide (to.2.2 < 1000) with
  | true =>
    simp only [cond_true, Option.bind_some]
    rw [F40s0_spec _ _ _ _ (by omega)]
    cases h2 : decide ((1000 : Int) < at'.2.2) with
    | true =>
      simp only [cond_true, Option.bind_some]
      rw [F40s0_spec _ _ _ _ (key _)]
      rfl
    | false =>
      simp only [cond_false, Option.bind_some]
      rw [F40s0_spec _ _ _ _ (by omega)]
      rfl
  | false =>
    simp only [cond_false, Option.bind_some]
    rw [F40s0_spec _ _ _ _ (by omega)]
    cases h2 : decide (to.2.2 < at'.2.2) <;> rfl
end Go.Sw

namespace Go.Sw
set_option linter.unusedSimpArgs false
set_option linter.unusedVariables false

theorem eqP (a b : Pos) : eqD t25 a b = true ↔ a = b := by
  obtain ⟨a1, a2, a3⟩ := a
  obtain ⟨b1, b2, b3⟩ := b
  simp only [eqD, Bool.and_eq_true, beq_iff_eq, Prod.mk.injEq]
theorem eqP_false {a b : Pos} (h : eqD t25 a b = false) : a ≠ b := by
  intro e
  rw [(eqP a b).2 e] at h
  cases h
theorem eqM_refl (a : Move) : eqD t66 a a = true := by
  obtain ⟨a1, ⟨a2, a3, a4⟩, ⟨a5, a6⟩, a7⟩ := a
  simp [eqD]

theorem addM_at (p : Pos × List Move) (to : Pos) (rate : Int) : (addM p to rate).1 = to := by
  unfold addM
  cases h : eqD t25 to p.1 with
  | true => exact ((eqP _ _).1 h).symm
  | false => rfl

def ZM : Move := ((0 : Int), ((0 : Int), (0 : Int), (0 : Int)), ((0 : Int), (0 : Int)), (0 : Int))

theorem F16_refl (l : List Move) (hl : l.length ≤ 1000000) : F16 l l = some true := by
  have h := loop_int (f16_l0_b l l) l.length (fun i => none) (.inl ())
    (fun again i hi => by
      unfold f16_l0_b
      show (bif decide ((i : Int) < _) then _ else _) = _
      rw [dec_lt hi]
      simp only [cond_true]
      rw [gd_true (by omega), gd_true (by omega), gd_true (by omega), gd_true (by omega), wrap_succ (by omega), eqM_refl]
      rfl)
    (fun again => by unfold f16_l0_b; show (bif decide ((l.length : Int) < _) then _ else _) = _; rw [dec_nlt (Nat.le_refl _)]; rfl)
    l.length 0 (2 + l.length + l.length) (by omega) (by omega)
  have e : ∀ (n i : Nat), runI (fun _ => (none : Option (Unit ⊕ Bool))) (.inl ()) i n = .inl () := by
    intro n
    induction n with
    | zero => intro i; rfl
    | succ n ih => intro i; exact ih (i + 1)
  unfold F16 f16_l0
  rw [show (0 : Int) = ((0 : Nat) : Int) from rfl, h, e]
  simp

/-! ## the moves are safe -/
def flatM (at' : Pos) (m : Move) : Bool := m.2.1.1 == at'.1 && m.2.1.2.1 == at'.2.1
def stepOk (least : Int) (at' : Pos) (m : Move) : Bool :=
  bif m.1 == 1 then (flatM at' m || (m.2.1.2.2 == at'.2.2 && !(decide (at'.2.2 < least)))) && !(decide (m.2.1.2.2 < 1000) && decide (m.2.1.2.2 ≤ at'.2.2))
  else m.1 == 2 && flatM at' m && !(decide (at'.2.2 ≤ m.2.1.2.2))
def good (least : Int) : Pos → List Move → Bool
  | _, [] => true
  | at', m :: ms => stepOk least at' m && good least m.2.1 ms
def endOf (at' : Pos) (l : List Move) : Pos := l.foldl (fun _ m => m.2.1) at'

theorem good_append (least : Int) : ∀ (l : List Move) (at' : Pos) (m : Move), good least at' (l ++ [m]) = (good least at' l && stepOk least (endOf at' l) m) := by
  intro l
  induction l with
  | nil => intro at' m; simp [good, endOf]
  | cons x xs ih => intro at' m; simp [good, ih, endOf, Bool.and_assoc]

theorem runS_foldl {S R α : Type} (l : List α) (d : α) (f : S → α → S) (g : Nat → S → S ⊕ R) (fin : S → R) (hg : ∀ i s, g i s = .inl (f s (l.getD i d))) :
    ∀ (n i : Nat) (s : S), i + n = l.length → runS g fin i n s = fin ((l.drop i).foldl f s) := by
  intro n
  induction n with
  | zero => intro i s hi; rw [List.drop_of_length_le (by omega)]; rfl
  | succ n ih =>
    intro i s hi
    have hlt : i < l.length := by omega
    simp only [runS, hg]
    rw [ih (i + 1) _ (by omega), List.drop_eq_getElem_cons hlt, List.foldl_cons]
    have e : l.getD i d = l[i] := by simp [List.getD, hlt]
    rw [e]

theorem F8_spec (from' to : Pos) (l : List Move) (least : Int) (hl : l.length ≤ 1000000) (hg : good least from' l = true) : F8 from' to l least = some (eqD t25 (endOf from' l) to) := by
  have h := loop_st (f8_l0_b least l (ofN l.length)) l.length (fun i _ => .inl (l.getD i ZM).2.1) .inl (fun i s => good least s (l.drop i) = true)
    (fun again i at' hi hs => by
      unfold f8_l0_b
      show (bif decide ((i : Int) < _) then _ else _) = _
      rw [dec_lt hi]
      simp only [cond_true]
      rw [gd_true (by omega), gd_true (by omega), wrap_succ (by omega)]
      rw [List.drop_eq_getElem_cons hi, good, Bool.and_eq_true] at hs
      have e : l.getD i ZM = l[i] := by simp [List.getD, hi]
      show (bif ((List.getD l i ZM).2.1.1 == at'.1) then
        ((f8_c1 least ((List.getD l i ZM).2.1.2.1 == at'.2.1) (List.getD l i ZM).1 ((List.getD l i ZM).1 == 1) at' (List.getD l i ZM)).bind fun o43 => match o43 with
          | .inl o44 => again (((i + 1 : Nat) : Int), (List.getD l i ZM).2.1)
          | .inr o45 => some (.inr o45))
        else ((f8_c2 least false (List.getD l i ZM).1 ((List.getD l i ZM).1 == 1) at' (List.getD l i ZM)).bind fun o43 => match o43 with
          | .inl o44 => again (((i + 1 : Nat) : Int), (List.getD l i ZM).2.1)
          | .inr o45 => some (.inr o45))) = _
      simp only [e]
      generalize l[i] = m at hs
      have hs1 := hs.1
      unfold stepOk flatM at hs1
      unfold f8_c1 f8_c2
      cases k1 : (m.1 == (1 : Int)) <;> cases k2 : (m.1 == (2 : Int)) <;> cases k3 : (m.2.1.1 == at'.1) <;> cases k4 : (m.2.1.2.1 == at'.2.1) <;> cases k5 : (m.2.1.2.2 == at'.2.2) <;>
        cases k6 : decide (at'.2.2 < least) <;> cases k7 : decide (m.2.1.2.2 < (1000 : Int)) <;> cases k8 : decide (m.2.1.2.2 ≤ at'.2.2) <;> cases k9 : decide (at'.2.2 ≤ m.2.1.2.2) <;>
        simp only [k1, k2, k3, k4, k5, k6, k7, k8, k9, cond_true, cond_false, Bool.and_true, Bool.true_and, Bool.and_false, Bool.false_and, Bool.or_true, Bool.true_or, Bool.or_false, Bool.false_or, Bool.not_true, Bool.not_false] at hs1 <;>
        first
          | (cases hs1; done)
          | (simp [k5, bne]; done))
    (fun i s s' hi hs h => by
      have := Sum.inl.inj h
      subst this
      rw [List.drop_eq_getElem_cons hi, good, Bool.and_eq_true] at hs
      have e : l.getD i ZM = l[i] := by simp [List.getD, hi]
      rw [e]
      exact hs.2)
    (fun again at' _ => by unfold f8_l0_b; show (bif decide ((l.length : Int) < _) then _ else _) = _; rw [dec_nlt (Nat.le_refl _)]; rfl)
    l.length 0 (2 + l.length) from' (by omega) (by omega) (by simpa using hg)
  rw [runS_foldl l ZM (fun _ m => m.2.1) _ _ (fun _ _ => rfl) _ _ _ (by omega), List.drop_zero] at h
  unfold F8 f8_l0
  rw [show (0 : Int) = ((0 : Nat) : Int) from rfl, h]
  rfl
end Go.Sw

namespace Go.Sw
set_option linter.unusedSimpArgs false
set_option linter.unusedVariables false

def Gd (least : Int) (from' : Pos) (p : Pos × List Move) : Prop := good least from' p.2 = true ∧ endOf from' p.2 = p.1

theorem Gd.add {least : Int} {from' : Pos} {p : Pos × List Move} (h : Gd least from' p) (to : Pos) (rate : Int) (hs : eqD t25 to p.1 = false → stepOk least p.1 (mkMove to rate) = true) : Gd least from' (addM p to rate) := by
  unfold addM
  cases he : eqD t25 to p.1 with
  | true => exact h
  | false =>
    refine ⟨?_, ?_⟩
    · show good least from' (p.2 ++ [mkMove to rate]) = true
      rw [good_append, h.1, h.2, hs he]
      rfl
    · show endOf from' (p.2 ++ [mkMove to rate]) = to
      unfold endOf
      rw [List.foldl_append]
      rfl

def pathM (z : Int) (l : List (Int × Int)) (p : Pos × List Move) : Pos × List Move := l.foldl (fun p g => addM p (g.1, g.2, z) 0) p

theorem pathM_len (z : Int) : ∀ (l : List (Int × Int)) (p : Pos × List Move), (pathM z l p).2.length ≤ p.2.length + l.length := by
  intro l
  induction l with
  | nil => intro p; simp [pathM]
  | cons g l ih =>
    intro p
    have h1 := ih (addM p (g.1, g.2, z) 0)
    have h2 := addM_len p (g.1, g.2, z) 0
    show (pathM z l (addM p (g.1, g.2, z) 0)).2.length ≤ _
    rw [List.length_cons]
    omega

theorem pathM_at (z : Int) : ∀ (l : List (Int × Int)) (p : Pos × List Move) (g : Int × Int), l.getLast? = some g → (pathM z l p).1 = (g.1, g.2, z) := by
  intro l
  induction l with
  | nil => intro p g h; cases h
  | cons x l ih =>
    intro p g h
    show (pathM z l (addM p (x.1, x.2, z) 0)).1 = _
    cases l with
    | nil =>
      have : x = g := by simpa using h
      subst this
      exact addM_at _ _ _
    | cons y l => exact ih _ g (by simpa using h)

theorem pathM_gd {least z : Int} {from' : Pos} (hz : 1000 ≤ z) (hl : least ≤ z) : ∀ (l : List (Int × Int)) (p : Pos × List Move), p.1.2.2 = z → Gd least from' p → Gd least from' (pathM z l p) := by
  intro l
  induction l with
  | nil => intro p _ h; exact h
  | cons x l ih =>
    intro p hp h
    refine ih _ (by rw [addM_at]) (h.add _ _ fun he => ?_)
    unfold stepOk flatM mkMove kindOf
    rw [hp]
    have e1 : decide (z < least) = false := decide_eq_false (by omega)
    have e2 : decide (z < 1000) = false := decide_eq_false (by omega)
    simp [e1, e2]

theorem F12_loop (z : Int) (l : List (Int × Int)) (p : Pos × List Move) (hp : p.1.2.2 = z) (hl : l.length ≤ 1000) (hp2 : p.2.length ≤ 1000) (f : Nat) (hf : l.length < f) :
    f12_l0 l (ofN l.length) f ((0 : Int), p.1, p.2) = some (pathM z l p) := by
  have h := loop_st (f12_l0_b l (ofN l.length)) l.length (fun i s => .inl (addM s ((l.getD i ((0 : Int), (0 : Int))).1, (l.getD i ((0 : Int), (0 : Int))).2, z) 0)) id (fun i s => s.1.2.2 = z ∧ s.2.length ≤ 1000 + i)
    (fun again i s hi hs => by
      unfold f12_l0_b
      show (bif decide ((i : Int) < _) then _ else _) = _
      rw [dec_lt hi]
      simp only [cond_true]
      rw [gd_true (by omega), gd_true (by omega), wrap_succ (by omega), F27s0_spec _ _ _ (by omega)]
      rw [hs.1]
      rfl)
    (fun i s s' hi hs h => by
      have := Sum.inl.inj h
      subst this
      refine ⟨by rw [addM_at], ?_⟩
      have := addM_len s ((l.getD i ((0 : Int), (0 : Int))).1, (l.getD i ((0 : Int), (0 : Int))).2, z) 0
      omega)
    (fun again s _ => by unfold f12_l0_b; show (bif decide ((l.length : Int) < _) then _ else _) = _; rw [dec_nlt (Nat.le_refl _)]; rfl)
    l.length 0 f p (by omega) (by omega) ⟨hp, by omega⟩
  rw [runS_foldl l ((0 : Int), (0 : Int)) (fun p g => addM p (g.1, g.2, z) 0) _ _ (fun _ _ => rfl) _ _ _ (by omega), List.drop_zero] at h
  exact h

theorem F17_loop (z : Int) (l : List (Int × Int)) (p : Pos × List Move) (hl : l.length ≤ 1000) (hp2 : p.2.length ≤ 1000) (f : Nat) (hf : l.length < f) :
    f17_l0 z l f ((0 : Int), p.2, p.1) = some ((pathM z l p).2, (pathM z l p).1) := by
  have h := loop_st (f17_l0_b z l) l.length (fun i s => .inl ((addM (s.2, s.1) ((l.getD i ((0 : Int), (0 : Int))).1, (l.getD i ((0 : Int), (0 : Int))).2, z) 0).2, (addM (s.2, s.1) ((l.getD i ((0 : Int), (0 : Int))).1, (l.getD i ((0 : Int), (0 : Int))).2, z) 0).1))
    id (fun i s => s.1.length ≤ 1000 + i)
    (fun again i s hi hs => by
      unfold f17_l0_b
      show (bif decide ((i : Int) < _) then _ else _) = _
      rw [dec_lt hi]
      simp only [cond_true]
      rw [gd_true (by omega), gd_true (by omega), gd_true (by omega), gd_true (by omega), wrap_succ (by omega), F40s0_spec _ _ _ _ (by omega)]
      rfl)
    (fun i s s' hi hs h => by
      have := Sum.inl.inj h
      subst this
      have := addM_len (s.2, s.1) ((l.getD i ((0 : Int), (0 : Int))).1, (l.getD i ((0 : Int), (0 : Int))).2, z) 0
      simp only at this ⊢
      omega)
    (fun again s _ => by unfold f17_l0_b; show (bif decide ((l.length : Int) < _) then _ else _) = _; rw [dec_nlt (Nat.le_refl _)]; rfl)
    l.length 0 f (p.2, p.1) (by omega) (by omega) (by simp; omega)
  rw [runS_foldl l ((0 : Int), (0 : Int)) (fun s g => ((addM (s.2, s.1) (g.1, g.2, z) 0).2, (addM (s.2, s.1) (g.1, g.2, z) 0).1)) _ _ (fun _ _ => rfl) _ _ _ (by omega), List.drop_zero] at h
  have key : ∀ (l : List (Int × Int)) (q : Pos × List Move), l.foldl (fun (s : List Move × Pos) g => ((addM (s.2, s.1) (g.1, g.2, z) 0).2, (addM (s.2, s.1) (g.1, g.2, z) 0).1)) (q.2, q.1) = ((pathM z l q).2, (pathM z l q).1) := by
    intro l
    induction l with
    | nil => intro q; rfl
    | cons g l ih => intro q; exact ih (addM q (g.1, g.2, z) 0)
  rw [key] at h
  exact h

theorem max2i_eq (a b : Int) : max2i a b = max a b := by
  unfold max2i
  split <;> omega

/-- both descents, from the plane of the path -/
theorem desc_same (p : Pos × List Move) (to : Pos) (z plunge : Int) (hp : p.1 = (to.1, to.2.1, z)) (hz : 1000 ≤ z) : descM p to.2.2 plunge = descR p to plunge := by
  unfold descM descR
  rw [hp]
  simp only [max2i_eq]
  by_cases h1 : to.2.2 < 1000
  · rw [decide_eq_true h1]
    have e : max 1000 to.2.2 = 1000 := by omega
    rw [e]
    simp only [cond_true]
    by_cases h2 : 1000 < z
    · rw [decide_eq_true h2]
      simp only [cond_true, addM_at]
      rw [decide_eq_true h1]
      rfl
    · rw [decide_eq_false h2]
      simp only [cond_false, hp]
      rw [decide_eq_true (show to.2.2 < z by omega)]
      rfl
  · rw [decide_eq_false h1]
    have e : max 1000 to.2.2 = to.2.2 := by omega
    rw [e]
    rfl

theorem desc_gd {least z plunge : Int} {from' to : Pos} {p : Pos × List Move} (hz : 1000 ≤ z) (ht : to.2.2 ≤ z) (hp : p.1 = (to.1, to.2.1, z)) (hpl : 0 < plunge) (h : Gd least from' p) : Gd least from' (descR p to plunge) ∧ (descR p to plunge).1 = to := by
  unfold descR
  rw [hp]
  by_cases h1 : to.2.2 < 1000
  · rw [decide_eq_true h1]
    simp only [cond_true]
    have feed : ∀ q : Pos × List Move, Gd least from' q → q.1.1 = to.1 → q.1.2.1 = to.2.1 → to.2.2 < q.1.2.2 → Gd least from' (addM q to plunge) := by
      intro q hq e1 e2 e3
      refine hq.add _ _ fun _ => ?_
      unfold stepOk flatM mkMove kindOf
      rw [decide_eq_true hpl, e1, e2]
      simp
      omega
    by_cases h2 : 1000 < z
    · rw [decide_eq_true h2]
      simp only [cond_true]
      refine ⟨feed _ (h.add _ _ fun _ => ?_) (by rw [addM_at]) (by rw [addM_at]) (by rw [addM_at]; exact h1), addM_at _ _ _⟩
      rw [hp]
      unfold stepOk flatM mkMove kindOf
      simp
    · rw [decide_eq_false h2]
      simp only [cond_false]
      exact ⟨feed _ h (by rw [hp]) (by rw [hp]) (by rw [hp]; show to.2.2 < z; omega), addM_at _ _ _⟩
  · rw [decide_eq_false h1]
    simp only [cond_false]
    by_cases h2 : to.2.2 < z
    · rw [decide_eq_true h2]
      refine ⟨h.add _ _ fun _ => ?_, addM_at _ _ _⟩
      rw [hp]
      unfold stepOk flatM mkMove kindOf
      have e2 : decide (to.2.2 < 1000) = false := decide_eq_false h1
      simp [e2]
    · rw [decide_eq_false h2]
      refine ⟨h, ?_⟩
      show p.1 = to
      rw [hp]
      have : z = to.2.2 := by omega
      rw [this]

theorem rise_gd {least z : Int} (from' : Pos) (hz : 1000 ≤ z) : Gd least from' (addM (from', []) (from'.1, from'.2.1, z) 0) := by
  refine Gd.add ⟨rfl, rfl⟩ _ _ fun _ => ?_
  unfold stepOk flatM mkMove kindOf
  have e2 : decide (z < 1000) = false := decide_eq_false (by omega)
  simp [e2]

theorem F17_spec (from' to : Pos) (z plunge : Int) (path : List (Int × Int)) (hl : path.length ≤ 1000) :
    F17 from' to z plunge path = some (descR (pathM z path (addM (from', []) (from'.1, from'.2.1, z) 0)) to plunge).2 := by
  have h1 := addM_len (from', []) (from'.1, from'.2.1, z) 0
  simp only [List.length_nil] at h1
  unfold F17
  rw [F40s0_spec _ _ _ _ (by simp), Option.bind_some, F17_loop z path _ hl (by omega) _ (by omega), Option.bind_some]
  have h2 := pathM_len z path (addM (from', []) (from'.1, from'.2.1, z) 0)
  have h3 : (pathM z path (addM (from', []) (from'.1, from'.2.1, z) 0)).2.length ≤ 100000 := by omega
  rw [F41s0_spec _ _ _ _ h3]
  rfl
end Go.Sw

namespace Go.Sw
set_option linter.unusedSimpArgs false
set_option linter.unusedVariables false

theorem loop_ex {σ S R : Type} (mk : Nat → S → σ) (B : (σ → Option R) → σ → Option R) (len : Nat) (Inv : Nat → S → Prop) (Q : R → Prop)
    (hB : ∀ (i : Nat) s, i < len → Inv i s → (∃ s', Inv (i + 1) s' ∧ ∀ again, B again (mk i s) = again (mk (i + 1) s')) ∨ (∃ r, Q r ∧ ∀ again, B again (mk i s) = some r))
    (hE : ∀ s, Inv len s → ∃ r, Q r ∧ ∀ again, B again (mk len s) = some r) :
    ∀ (n i f : Nat) s, i + n = len → n < f → Inv i s → ∃ r, Q r ∧ loopF B f (mk i s) = some r := by
  intro n
  induction n with
  | zero =>
    intro i f s hi hf hs
    obtain ⟨f, rfl⟩ : ∃ g, f = g + 1 := ⟨f - 1, by omega⟩
    obtain rfl : i = len := by omega
    obtain ⟨r, h1, h2⟩ := hE s hs
    exact ⟨r, h1, h2 _⟩
  | succ n ih =>
    intro i f s hi hf hs
    obtain ⟨f, rfl⟩ : ∃ g, f = g + 1 := ⟨f - 1, by omega⟩
    rcases hB i s (by omega) hs with ⟨s', h1, h2⟩ | ⟨r, h1, h2⟩
    · obtain ⟨r, h3, h4⟩ := ih (i + 1) f s' (by omega) (by omega) h1
      refine ⟨r, h3, ?_⟩
      show B (loopF B f) (mk i s) = _
      rw [h2]
      exact h4
    · exact ⟨r, h1, h2 _⟩

/-! ## a row turned about -/
theorem set_mid {α : Type} (pre post : List α) (x y : α) : (pre ++ x :: post).set pre.length y = pre ++ y :: post := by simp
theorem getD_mid {α : Type} (pre post : List α) (x d : α) : (pre ++ x :: post).getD pre.length d = x := by simp [List.getD]

theorem f56_spec : ∀ (n : Nat) (pre mid post : List (Int × Int)) (f : Nat), mid.length ≤ n → n < f → (pre ++ mid ++ post).length ≤ 1000000 →
    f56s0_l0 f ((pre.length : Int), (pre.length : Int) + (mid.length : Int) - 1, pre ++ mid ++ post) = some (pre ++ mid.reverse ++ post) := by
  intro n
  induction n using Nat.strongRecOn with
  | _ n ih =>
    intro pre mid post f hm hf hlen
    obtain ⟨f, rfl⟩ : ∃ g, f = g + 1 := ⟨f - 1, by omega⟩
    show (bif decide ((pre.length : Int) < (pre.length : Int) + (mid.length : Int) - 1) then _ else _) = _
    rcases mid with _ | ⟨a, mid⟩
    · rw [decide_eq_false (by simp only [List.length_nil]; omega)]; rfl
    · rcases List.eq_nil_or_concat mid with rfl | ⟨m, b, rfl⟩
      · rw [decide_eq_false (by simp only [List.length_cons, List.length_nil]; omega)]; rfl
      · have e1 : ((a :: m.concat b).length : Int) = (m.length : Int) + 2 := by simp; omega
        have e2 : (pre.length : Int) + ((a :: m.concat b).length : Int) - 1 = ((pre.length + m.length + 1 : Nat) : Int) := by rw [e1]; omega
        have hL : (pre ++ (a :: m.concat b) ++ post).length = pre.length + m.length + 2 + post.length := by simp; omega
        have el : pre ++ (a :: m.concat b) ++ post = pre ++ a :: (m ++ b :: post) := by simp
        have er : pre ++ (a :: m.concat b) ++ post = (pre ++ a :: m) ++ b :: post := by simp
        have eln : (pre ++ a :: m).length = pre.length + m.length + 1 := by simp; omega
        rw [decide_eq_true (by rw [e2]; omega), e2]
        simp only [cond_true]
        have g1 : List.getD (pre ++ (a :: m.concat b) ++ post) (toN ((pre.length + m.length + 1 : Nat) : Int)) ((0 : Int), (0 : Int)) = b := by
          show List.getD _ (pre.length + m.length + 1) _ = _
          rw [er, ← eln, getD_mid]
        have g2 : List.getD (pre ++ (a :: m.concat b) ++ post) (toN (pre.length : Int)) ((0 : Int), (0 : Int)) = a := by
          show List.getD _ pre.length _ = _
          rw [el, getD_mid]
        have g3 : List.set (pre ++ (a :: m.concat b) ++ post) (toN (pre.length : Int)) b = pre ++ b :: (m ++ b :: post) := by
          show List.set _ pre.length b = _
          rw [el, set_mid]
        have g4 : List.set (pre ++ b :: (m ++ b :: post)) (toN ((pre.length + m.length + 1 : Nat) : Int)) a = (pre ++ [b]) ++ m ++ (a :: post) := by
          show List.set _ (pre.length + m.length + 1) a = _
          rw [show pre ++ b :: (m ++ b :: post) = (pre ++ b :: m) ++ b :: post by simp, show pre.length + m.length + 1 = (pre ++ b :: m).length by simp; omega, set_mid]
          simp
        rw [g1, g2, g3, g4]
        have hlen' : pre.length + m.length + 2 + post.length ≤ 1000000 := by rw [← hL]; exact hlen
        have t1 : toN ((pre.length + m.length + 1 : Nat) : Int) = pre.length + m.length + 1 := rfl
        have t2 : toN (pre.length : Int) = pre.length := rfl
        have hL2 : (pre ++ b :: (m ++ b :: post)).length = pre.length + m.length + 2 + post.length := by simp; omega
        rw [hL, hL2, t1, t2]
        rw [gd_true (by omega), gd_true (by omega), gd_true (by omega), gd_true (by omega), gd_true (by omega), gd_true (by omega), gd_true (by omega), gd_true (by omega), gd_true (by omega), gd_true (by omega), gd_true (by omega), gd_true (by omega)]
        have w1 : wrapI .i64 ((pre.length : Int) + 1) = ((pre ++ [b]).length : Int) := by rw [wrapI_i64] <;> (try simp) <;> omega
        have w2 : wrapI .i64 (((pre.length + m.length + 1 : Nat) : Int) - 1) = ((pre ++ [b]).length : Int) + (m.length : Int) - 1 := by rw [wrapI_i64] <;> simp <;> omega
        rw [w1, w2]
        simp only [List.length_cons, List.length_concat] at hm
        have := ih (n - 2) (by omega) (pre ++ [b]) m (a :: post) f (by omega) (by omega) (by simp; omega)
        refine Eq.trans this ?_
        simp

theorem F56s0_spec (l : List (Int × Int)) (hl : l.length ≤ 100000) : F56s0 l = some l.reverse := by
  unfold F56s0
  have h := f56_spec l.length [] l [] (2 + l.length) (by omega) (by omega) (by simp; omega)
  simp only [List.length_nil, List.nil_append, List.append_nil] at h
  have e : wrapI .i64 (ofN l.length - (1 : Int)) = (((0 : Nat) : Int)) + (l.length : Int) - 1 := by
    rw [ofN_eq, wrapI_i64] <;> omega
  rw [e, show (0 : Int) = ((0 : Nat) : Int) from rfl]
  rw [h]
  rfl
end Go.Sw

namespace Go.Sw
set_option linter.unusedSimpArgs false
set_option linter.unusedVariables false

theorem getD_set_if {α : Type} (l : List α) (i j : Nat) (x d : α) (h : i < l.length) : (l.set i x).getD j d = if i = j then x else l.getD j d := by
  simp only [List.getD_eq_getElem?_getD, List.getElem?_set]
  split <;> simp_all

/-- the start: all are -1 -/
theorem f39_l0_spec (n f : Nat) (hn : n ≤ 1000) (hf : n < f) : ∃ r : List Int, (r.length = n ∧ ∀ j, j < n → r.getD j 0 = -1) ∧ f39s0_l0 (ofN n) f ((0 : Int), List.replicate n (0 : Int)) = some r := by
  have h := loop_ex (fun (i : Nat) (s : List Int) => ((i : Int), s)) (f39s0_l0_b (ofN n)) n (fun i s => s.length = n ∧ ∀ j, j < i → s.getD j 0 = -1) (fun r => r.length = n ∧ ∀ j, j < n → r.getD j 0 = -1)
    (fun i s hi hs => by
      refine .inl ⟨s.set i (-1), ⟨by rw [List.length_set]; exact hs.1, fun j hj => ?_⟩, fun again => ?_⟩
      · rw [getD_set_if _ _ _ _ _ (by omega)]
        split
        · rfl
        · exact hs.2 j (by omega)
      · unfold f39s0_l0_b
        show (bif decide ((i : Int) < _) then _ else _) = _
        rw [dec_lt hi]
        simp only [cond_true]
        have t : toN (i : Int) = i := rfl
        rw [t, hs.1, gd_true (by omega), gd_true (by omega), gd_true (by omega), gd_true (by omega), gd_true (by omega), gd_true (by omega), wrap_succ (by omega)])
    (fun s hs => ⟨s, hs, fun again => by unfold f39s0_l0_b; show (bif decide ((n : Int) < _) then _ else _) = _; rw [dec_nlt (Nat.le_refl _)]; rfl⟩)
    n 0 f (List.replicate n 0) (by omega) (by omega) ⟨by simp, fun j hj => by omega⟩
  exact h

/-- the next one -/
def NextQ (n : Nat) (far : List Int) (done : List Bool) (x : Int) : Prop := x = -1 ∨ (0 ≤ x ∧ x < (n : Int) ∧ done.getD x.toNat false = false ∧ 0 ≤ far.getD x.toNat 0)

theorem f39_l2_spec (n f : Nat) (far : List Int) (done : List Bool) (h1 : far.length = n) (h2 : done.length = n) (hn : n ≤ 1000) (hf : n < f) :
    ∃ r, NextQ n far done r ∧ f39s0_l2 (ofN n) far done f ((-1 : Int), (0 : Int)) = some r := by
  have h := loop_ex (fun (i : Nat) (s : Int) => (s, (i : Int))) (f39s0_l2_b (ofN n) far done) n (fun _ s => NextQ n far done s) (NextQ n far done)
    (fun i s hi hs => by
      have key : ∀ again, f39s0_l2_b (ofN n) far done again (s, (i : Int)) = (bif !(done.getD i false) then (bif decide ((0 : Int) ≤ far.getD i 0) then (bif decide (s < (0 : Int)) then again ((i : Int), ((i + 1 : Nat) : Int)) else
          (bif decide (far.getD i 0 < far.getD s.toNat 0) then again ((i : Int), ((i + 1 : Nat) : Int)) else again (s, ((i + 1 : Nat) : Int)))) else again (s, ((i + 1 : Nat) : Int))) else again (s, ((i + 1 : Nat) : Int))) := by
        intro again
        unfold f39s0_l2_b
        show (bif decide ((i : Int) < _) then _ else _) = _
        rw [dec_lt hi]
        simp only [cond_true]
        have t : toN (i : Int) = i := rfl
        rw [t, h1, h2, gd_true (by omega), gd_true (by omega), gd_true (by omega), gd_true (by omega), gd_true (by omega), gd_true (by omega), wrap_succ (by omega)]
        cases done.getD i false with
        | true => rfl
        | false =>
          simp only [Bool.not_false, cond_true]
          by_cases hz : (0 : Int) ≤ far.getD i 0
          · rw [decide_eq_true hz]
            simp only [cond_true]
            by_cases hs0 : s < 0
            · rw [decide_eq_true hs0]; rfl
            · rw [decide_eq_false hs0]
              simp only [cond_false]
              rcases hs with rfl | ⟨q1, q2, q3, q4⟩
              · omega
              have t2 : toN s = s.toNat := rfl
              rw [t2, gd_true (by omega), gd_true (by omega), gd_true (by omega), gd_true (by omega), gd_true (by omega), gd_true (by omega)]
              unfold f39s0_c3
              cases decide (far.getD i 0 < far.getD s.toNat 0) <;> rfl
          · rw [decide_eq_false hz]; rfl
      have hi' : far.getD i 0 ≥ 0 → done.getD i false = false → NextQ n far done (i : Int) := fun a b => .inr ⟨by omega, by omega, b, a⟩
      cases hd : done.getD i false with
      | true => exact .inl ⟨s, hs, fun again => by rw [key, hd]; rfl⟩
      | false =>
        by_cases hz : (0 : Int) ≤ far.getD i 0
        · by_cases hs0 : s < 0
          · exact .inl ⟨i, hi' hz hd, fun again => by rw [key, hd, decide_eq_true hz, decide_eq_true hs0]; rfl⟩
          · by_cases hlt : far.getD i 0 < far.getD s.toNat 0
            · exact .inl ⟨i, hi' hz hd, fun again => by rw [key, hd, decide_eq_true hz, decide_eq_false hs0, decide_eq_true hlt]; rfl⟩
            · exact .inl ⟨s, hs, fun again => by rw [key, hd, decide_eq_true hz, decide_eq_false hs0, decide_eq_false hlt]; rfl⟩
        · exact .inl ⟨s, hs, fun again => by rw [key, hd, decide_eq_false hz]; rfl⟩)
    (fun s hs => ⟨s, hs, fun again => by unfold f39s0_l2_b; show (bif decide ((n : Int) < _) then _ else _) = _; rw [dec_nlt (Nat.le_refl _)]; rfl⟩)
    n 0 f (-1) (by omega) (by omega) (.inl rfl)
  exact h

/-- what a round turns: only those that are not done, and they come from the next one -/
def TurnQ (n : Nat) (next : Int) (done : List Bool) (far before : List Int) (s : List Int × List Int) : Prop :=
  s.1.length = n ∧ s.2.length = n ∧ ∀ j, j < n → (s.1.getD j 0 = far.getD j 0 ∧ s.2.getD j 0 = before.getD j 0) ∨ (done.getD j false = false ∧ s.2.getD j 0 = next)

theorem f39_l4_spec (at' : List (Int × Int)) (cl : List Clamp) (n f : Nat) (next : Int) (far before : List Int) (done : List Bool) (ha : at'.length = n) (h1 : far.length = n) (h2 : done.length = n) (h3 : before.length = n) (hc : cl.length ≤ 1000)
    (hx0 : 0 ≤ next) (hx1 : next < (n : Int)) (hn : n ≤ 1000) (hf : n < f) :
    ∃ r, TurnQ n next done far before r ∧ f39s0_l4 at' next (ofN n) done cl f ((0 : Int), far, before) = some r := by
  have h := loop_ex (fun (i : Nat) (s : List Int × List Int) => ((i : Int), s)) (f39s0_l4_b at' next (ofN n) done cl) n (fun _ s => TurnQ n next done far before s) (TurnQ n next done far before)
    (fun i s hi hs => by
      obtain ⟨s1, s2⟩ := s
      obtain ⟨l1, l2, hj⟩ := hs
      have turn : done.getD i false = false → ∀ d, TurnQ n next done far before (s1.set i d, s2.set i next) := by
        intro hd d
        refine ⟨by simpa using l1, by simpa using l2, fun j hjn => ?_⟩
        rw [getD_set_if _ _ _ _ _ (by simpa using (show i < s1.length by simp at l1; omega)), getD_set_if _ _ _ _ _ (by simp at l2; omega)]
        by_cases hij : i = j
        · subst hij; rw [if_pos rfl, if_pos rfl]; exact .inr ⟨hd, rfl⟩
        · rw [if_neg hij, if_neg hij]; exact hj j hjn
      simp only at l1 l2
      have t : toN (i : Int) = i := rfl
      have t2 : toN next = next.toNat := rfl
      have c5 : ∀ (d : Int) (b : Bool), f39s0_c5 next (i : Int) d b s1 s2 = some (bif b then (s1.set i d, s2.set i next) else (s1, s2)) := by
        intro d b
        unfold f39s0_c5
        cases b with
        | false => rfl
        | true =>
          simp only [cond_true]
          rw [t, gd_true (by omega), gd_true (by omega), gd_true (by omega), gd_true (by omega), gd_true (by omega), gd_true (by omega)]
      have c6 : ∀ (d : Int) (b : Bool), f39s0_c6 next (i : Int) d b s1 s2 = some (bif b then (s1.set i d, s2.set i next) else (s1, s2)) := by
        intro d b
        unfold f39s0_c6
        cases b with
        | false => rfl
        | true =>
          simp only [cond_true]
          rw [t, gd_true (by omega), gd_true (by omega), gd_true (by omega), gd_true (by omega), gd_true (by omega), gd_true (by omega)]
      obtain ⟨g, hg⟩ : ∃ g, F42 (List.getD at' next.toNat ((0 : Int), (0 : Int))) (List.getD at' i ((0 : Int), (0 : Int))) = some g := ⟨_, rfl⟩
      have key : ∀ again, f39s0_l4_b at' next (ofN n) done cl again ((i : Int), s1, s2) = (bif !(done.getD i false) then (bif decide (s1.getD i 0 < (0 : Int)) then
          (bif (!(cl.any fun c => Go.Sw.ent c (List.getD at' next.toNat ((0 : Int), (0 : Int))) (List.getD at' i ((0 : Int), (0 : Int))))) then again (((i + 1 : Nat) : Int), s1.set i (wrapI .i64 (s1.getD next.toNat 0 + g)), s2.set i next) else again (((i + 1 : Nat) : Int), s1, s2)) else
          (bif decide ((wrapI .i64 (s1.getD next.toNat 0 + g)) < s1.getD i 0) then
            (bif (!(cl.any fun c => Go.Sw.ent c (List.getD at' next.toNat ((0 : Int), (0 : Int))) (List.getD at' i ((0 : Int), (0 : Int))))) then again (((i + 1 : Nat) : Int), s1.set i (wrapI .i64 (s1.getD next.toNat 0 + g)), s2.set i next) else again (((i + 1 : Nat) : Int), s1, s2)) else
            again (((i + 1 : Nat) : Int), s1, s2))) else again (((i + 1 : Nat) : Int), s1, s2)) := by
        intro again
        unfold f39s0_l4_b
        show (bif decide ((i : Int) < _) then _ else _) = _
        rw [dec_lt hi]
        simp only [cond_true]
        rw [t, t2, l1, ha, h2, gd_true (by omega), gd_true (by omega), gd_true (by omega), gd_true (by omega), gd_true (by omega), gd_true (by omega), gd_true (by omega), hg, Option.bind_some,
          gd_true (by omega), gd_true (by omega), gd_true (by omega), wrap_succ (by omega)]
        cases done.getD i false with
        | true => rfl
        | false =>
          simp only [Bool.not_false, cond_true]
          rw [gd_true (by omega), gd_true (by omega), gd_true (by omega), F37s0_spec _ _ _ hc]
          have k1 : (0 : Int) ≤ next := hx0
          have k2 : next < ((n : Nat) : Int) := hx1
          have k3 : (0 : Int) ≤ (i : Int) := by omega
          have k4 : (i : Int) < ((n : Nat) : Int) := by omega
          have k5 : i < n := hi
          simp only [gd_true k1, gd_true k2, gd_true k3, gd_true k4, gd_true k5, Option.bind_some, c5, c6]
          cases decide (s1.getD i 0 < (0 : Int)) <;> cases decide ((wrapI .i64 (s1.getD next.toNat 0 + g)) < s1.getD i 0) <;>
            cases (cl.any fun c => Go.Sw.ent c (List.getD at' next.toNat ((0 : Int), (0 : Int))) (List.getD at' i ((0 : Int), (0 : Int)))) <;> rfl
      have hs : TurnQ n next done far before (s1, s2) := ⟨l1, l2, hj⟩
      cases hd : done.getD i false with
      | true => exact .inl ⟨(s1, s2), hs, fun again => by rw [key, hd]; rfl⟩
      | false =>
        cases he : (cl.any fun c => Go.Sw.ent c (List.getD at' next.toNat ((0 : Int), (0 : Int))) (List.getD at' i ((0 : Int), (0 : Int)))) with
        | true =>
          refine .inl ⟨(s1, s2), hs, fun again => ?_⟩
          rw [key, hd, he]
          cases decide (s1.getD i 0 < (0 : Int)) <;> cases decide ((wrapI .i64 (s1.getD next.toNat 0 + g)) < s1.getD i 0) <;> rfl
        | false =>
          cases h5 : decide (s1.getD i 0 < (0 : Int)) with
          | true => exact .inl ⟨(s1.set i (wrapI .i64 (s1.getD next.toNat 0 + g)), s2.set i next), turn hd _, fun again => by rw [key, hd, he, h5]; rfl⟩
          | false =>
            cases h6 : decide ((wrapI .i64 (s1.getD next.toNat 0 + g)) < s1.getD i 0) with
            | true => exact .inl ⟨(s1.set i (wrapI .i64 (s1.getD next.toNat 0 + g)), s2.set i next), turn hd _, fun again => by rw [key, hd, he, h5, h6]; rfl⟩
            | false => exact .inl ⟨(s1, s2), hs, fun again => by rw [key, hd, he, h5, h6]; rfl⟩)
    (fun s hs => ⟨s, hs, fun again => by unfold f39s0_l4_b; show (bif decide ((n : Int) < _) then _ else _) = _; rw [dec_nlt (Nat.le_refl _)]; rfl⟩)
    n 0 f (far, before) (by omega) (by omega) ⟨h1, h3, fun j _ => .inl ⟨rfl, rfl⟩⟩
  exact h
end Go.Sw

namespace Go.Sw
set_option linter.unusedSimpArgs false
set_option linter.unusedVariables false

/-- from i, the row 'before' leads to -1 within so many steps, over nodes that are done -/
def ChD (n : Nat) (before : List Int) (done : List Bool) : Nat → Int → Prop
  | 0, i => i = -1
  | k + 1, i => i = -1 ∨ (0 ≤ i ∧ i < (n : Int) ∧ done.getD i.toNat false = true ∧ ChD n before done k (before.getD i.toNat 0))

theorem ChD.succ {n : Nat} {before : List Int} {done : List Bool} : ∀ {k : Nat} {i : Int}, ChD n before done k i → ChD n before done (k + 1) i := by
  intro k
  induction k with
  | zero => intro i h; exact .inl h
  | succ k ih =>
    intro i h
    rcases h with h | ⟨h1, h2, h3, h4⟩
    · exact .inl h
    · exact .inr ⟨h1, h2, h3, ih h4⟩

theorem ChD.turn {n : Nat} {before before' : List Int} {done done' : List Bool} (h : ∀ j, j < n → done.getD j false = true → done'.getD j false = true ∧ before'.getD j 0 = before.getD j 0) :
    ∀ {k : Nat} {i : Int}, ChD n before done k i → ChD n before' done' k i := by
  intro k
  induction k with
  | zero => intro i h; exact h
  | succ k ih =>
    intro i hc
    rcases hc with hc | ⟨h1, h2, h3, h4⟩
    · exact .inl hc
    · obtain ⟨g1, g2⟩ := h i.toNat (by omega) h3
      exact .inr ⟨h1, h2, g1, by rw [g2]; exact ih h4⟩

structure JD (n m : Nat) (far before : List Int) (done : List Bool) : Prop where
  lf : far.length = n
  lb : before.length = n
  ld : done.length = n
  cnt : done.count false + m = n
  ch : ∀ j, j < n → done.getD j false = true → ChD n before done m (j : Int)
  ch2 : ∀ j, j < n → done.getD j false = false → 0 ≤ far.getD j 0 → ChD n before done m (before.getD j 0)

theorem JD.round {n m : Nat} {far before : List Int} {done : List Bool} (J : JD n m far before done) {x : Nat} (hx : x < n) (hd : done.getD x false = false) (hfx : 0 ≤ far.getD x 0) {s : List Int × List Int}
    (hs : TurnQ n (x : Int) (done.set x true) far before s) : JD n (m + 1) s.1 s.2 (done.set x true) := by
  obtain ⟨l1, l2, hj⟩ := hs
  have hxd : x < done.length := by rw [J.ld]; exact hx
  have hset : ∀ j, (done.set x true).getD j false = if x = j then true else done.getD j false := fun j => getD_set_if _ _ _ _ _ hxd
  have tr : ∀ j, j < n → done.getD j false = true → (done.set x true).getD j false = true ∧ s.2.getD j 0 = before.getD j 0 := by
    intro j hjn hdj
    have h1 : (done.set x true).getD j false = true := by
      rw [hset]
      split
      · rfl
      · exact hdj
    rcases hj j hjn with ⟨_, h⟩ | ⟨h, _⟩
    · exact ⟨h1, h⟩
    · rw [h1] at h; cases h
  have bx : s.2.getD x 0 = before.getD x 0 := by
    rcases hj x hx with ⟨_, h⟩ | ⟨h, _⟩
    · exact h
    · rw [hset, if_pos rfl] at h; cases h
  have cx : ChD n s.2 (done.set x true) (m + 1) (x : Int) := by
    refine .inr ⟨by omega, by omega, ?_, ?_⟩
    · show (done.set x true).getD x false = true
      rw [hset, if_pos rfl]
    · show ChD n s.2 (done.set x true) m (s.2.getD x 0)
      rw [bx]
      exact (J.ch2 x hx hd hfx).turn tr
  refine ⟨l1, l2, by simpa using J.ld, ?_, fun j hjn hdj => ?_, fun j hjn hdj hfj => ?_⟩
  · have hg : done[x] = false := by
      have : done.getD x false = done[x] := by simp [List.getD, hxd]
      rw [← this, hd]
    have hpos : 0 < done.count false := List.count_pos_iff.2 (by rw [← hg]; exact List.getElem_mem hxd)
    rw [List.count_set hxd, hg]
    have := J.cnt
    simp
    omega
  · rw [hset] at hdj
    by_cases hxj : x = j
    · subst hxj; exact cx
    · rw [if_neg hxj] at hdj
      exact ((J.ch j hjn hdj).turn tr).succ
  · rcases hj j hjn with ⟨h1, h2⟩ | ⟨h1, h2⟩
    · rw [hset] at hdj
      by_cases hxj : x = j
      · subst hxj; rw [if_pos rfl] at hdj; cases hdj
      · rw [if_neg hxj] at hdj
        rw [h2]
        rw [h1] at hfj
        exact ((J.ch2 j hjn hdj hfj).turn tr).succ
    · rw [h2]
      exact cx

/-- how the search ends -/
def EndQ (n : Nat) (cl : List Clamp) (r : (List Int) ⊕ ((List (Int × Int)) × (List Clamp))) : Prop :=
  match r with
  | .inr q => q = ([], cl)
  | .inl b => b.length = n ∧ ∃ done k, k ≤ n ∧ ChD n b done k (b.getD (n - 1) 0)

theorem f39_l1_spec (at' : List (Int × Int)) (cl : List Clamp) (n : Nat) (ha : at'.length = n) (hc : cl.length ≤ 1000) (hn : n ≤ 1000) (hn1 : 1 ≤ n) :
    ∀ (t m f : Nat) (far before : List Int) (done : List Bool), m + t = n → t < f → JD n m far before done → ∃ r, EndQ n cl r ∧ f39s0_l1 at' cl f (far, before, done) = some r := by
  intro t
  induction t with
  | zero =>
    intro m f far before done hm hf J
    obtain ⟨f, rfl⟩ : ∃ g, f = g + 1 := ⟨f - 1, by omega⟩
    obtain ⟨x, hx, h2⟩ := f39_l2_spec n (2 + at'.length + far.length + before.length + done.length + cl.length) far done J.lf J.ld hn (by omega)
    have hx1 : x = -1 := by
      rcases hx with h | ⟨q1, q2, q3, q4⟩
      · exact h
      · have hxd : x.toNat < done.length := by rw [J.ld]; omega
        have hg : done[x.toNat] = false := by
          have : done.getD x.toNat false = done[x.toNat] := by simp [List.getD, hxd]
          rw [← this, q3]
        have hpos : 0 < done.count false := List.count_pos_iff.2 (by rw [← hg]; exact List.getElem_mem hxd)
        have := J.cnt
        omega
    subst hx1
    refine ⟨.inr ([], cl), rfl, ?_⟩
    show f39s0_l1_b at' cl (f39s0_l1 at' cl f) (far, before, done) = _
    unfold f39s0_l1_b
    rw [ha] at h2 ⊢
    show ((f39s0_l2 (ofN n) far done _ ((-1 : Int), (0 : Int))).bind _) = _
    rw [h2]
    rfl
  | succ t ih =>
    intro m f far before done hm hf J
    obtain ⟨f, rfl⟩ : ∃ g, f = g + 1 := ⟨f - 1, by omega⟩
    obtain ⟨x, hx, h2⟩ := f39_l2_spec n (2 + at'.length + far.length + before.length + done.length + cl.length) far done J.lf J.ld hn (by omega)
    have step : f39s0_l1 at' cl (f + 1) (far, before, done) = f39s0_l1_b at' cl (f39s0_l1 at' cl f) (far, before, done) := rfl
    rw [step]
    unfold f39s0_l1_b
    rw [ha] at h2 ⊢
    show ∃ r, EndQ n cl r ∧ ((f39s0_l2 (ofN n) far done _ ((-1 : Int), (0 : Int))).bind _) = some r
    rw [h2, Option.bind_some]
    rcases hx with rfl | ⟨q1, q2, q3, q4⟩
    · exact ⟨.inr ([], cl), rfl, rfl⟩
    · rw [decide_eq_false (show ¬ x < 0 by omega)]
      simp only [cond_false]
      have ew : wrapI .i64 (ofN n - (1 : Int)) = (n : Int) - 1 := by rw [ofN_eq, wrapI_i64] <;> omega
      rw [ew]
      cases hl : (x == (n : Int) - 1) with
      | true =>
        have hxe : x = (n : Int) - 1 := by simpa using hl
        refine ⟨.inl before, ⟨J.lb, done, m, by omega, ?_⟩, rfl⟩
        have := J.ch2 x.toNat (by omega) q3 q4
        rwa [show n - 1 = x.toNat by omega]
      | false =>
        simp only [cond_false]
        have t2 : toN x = x.toNat := rfl
        rw [t2, J.ld, gd_true (by omega), gd_true (by omega), gd_true (by omega)]
        have hxn : x = ((x.toNat : Nat) : Int) := by omega
        obtain ⟨s, hs, h4⟩ := f39_l4_spec at' cl n (2 + n + (done.set x.toNat true).length + cl.length + far.length + before.length) x far before (done.set x.toNat true) ha J.lf (by simpa using J.ld) J.lb hc q1 q2 hn (by omega)
        rw [h4, Option.bind_some]
        rw [hxn] at hs
        have J' := J.round (by omega) q3 q4 hs
        exact ih (m + 1) f s.1 s.2 (done.set x.toNat true) (by omega) (by omega) J'

/-! ## the way back -/
theorem f39_l7_spec (at' : List (Int × Int)) (n : Nat) (before : List Int) (done : List Bool) (ha : at'.length = n) (hb : before.length = n) (hn : n ≤ 1000) :
    ∀ (k : Nat) (i : Int) (out : List (Int × Int)) (f : Nat), ChD n before done k i → k < f → out ≠ [] → out.length + k ≤ 100000 →
    ∃ t, f39s0_l7 at' before f (i, out) = some (out ++ t) ∧ t.length ≤ k := by
  intro k
  induction k with
  | zero =>
    intro i out f h hf ho hl
    obtain ⟨f, rfl⟩ : ∃ g, f = g + 1 := ⟨f - 1, by omega⟩
    have h' : i = -1 := h
    subst h'
    exact ⟨[], by rw [List.append_nil]; rfl, by simp⟩
  | succ k ih =>
    intro i out f h hf ho hl
    obtain ⟨f, rfl⟩ : ∃ g, f = g + 1 := ⟨f - 1, by omega⟩
    rcases h with rfl | ⟨h1, h2, h3, h4⟩
    · exact ⟨[], by rw [List.append_nil]; rfl, by simp⟩
    · have step : f39s0_l7 at' before (f + 1) (i, out) = f39s0_l7_b at' before (f39s0_l7 at' before f) (i, out) := rfl
      have ho2 : 1 ≤ out.length := by
        cases out with
        | nil => exact absurd rfl ho
        | cons _ _ => simp
      rw [step]
      unfold f39s0_l7_b
      have hrec : ∀ out', (out' = out ∨ ∃ g, out' = out ++ [g]) → ∃ t, f39s0_l7 at' before f (before.getD i.toNat 0, out') = some (out ++ t) ∧ t.length ≤ k + 1 := by
        intro out' ho'
        rcases ho' with rfl | ⟨g, rfl⟩
        · obtain ⟨t, e1, e2⟩ := ih _ out' f h4 (by omega) ho (by omega)
          exact ⟨t, e1, by omega⟩
        · obtain ⟨t, e1, e2⟩ := ih _ (out ++ [g]) f h4 (by omega) (by simp) (by simp; omega)
          exact ⟨g :: t, by rw [e1]; simp, by simp; omega⟩
      have t2 : toN i = i.toNat := rfl
      have e0 : (ofN out.length == (0 : Int)) = false := by simp [ofN_eq]; exact fun e => ho e
      have ew : wrapI .i64 (ofN out.length - (1 : Int)) = (out.length : Int) - 1 := by rw [ofN_eq, wrapI_i64] <;> omega
      show ∃ t, (bif decide ((0 : Int) ≤ i) then (bif (ofN out.length == (0 : Int)) then _ else _) else _) = some (out ++ t) ∧ _
      rw [decide_eq_true h1, e0, ew, t2, ha, hb]
      simp only [cond_true, cond_false]
      have t3 : toN ((out.length : Int) - 1) = ((out.length : Int) - 1).toNat := rfl
      rw [t3, gd_true (by omega), gd_true (by omega), gd_true (by omega), gd_true (by omega), gd_true (by omega)]
      have c8 : ∀ b, f39s0_c8 at' i b out = some (bif b then out ++ [at'.getD i.toNat ((0 : Int), (0 : Int))] else out) := by
        intro b
        unfold f39s0_c8
        cases b with
        | false => rfl
        | true =>
          simp only [cond_true]
          rw [t2, ha, gd_true (by omega), gd_true (by omega), gd_true (by simp; omega)]
      simp only [c8, Option.bind_some]
      rw [gd_true (by omega), gd_true (by omega), gd_true (by omega)]
      exact hrec _ (by
        cases (!eqD t28 (out.getD ((out.length : Int) - 1).toNat (0, 0)) (at'.getD i.toNat (0, 0)))
        · exact .inl rfl
        · exact .inr ⟨_, rfl⟩)

theorem F39s0_spec (at' : List (Int × Int)) (cl : List Clamp) (g : Int × Int) (pre : List (Int × Int)) (ha : at' = pre ++ [g]) (hc : cl.length ≤ 1000) (hn : at'.length ≤ 1000) :
    ∃ r, F39s0 at' cl = some (r, cl) ∧ (r = [] ∨ (r.getLast? = some g ∧ r.length ≤ at'.length + 2)) := by
  have hn1 : 1 ≤ at'.length := by rw [ha]; simp
  have hat : at'.getD (at'.length - 1) ((0 : Int), (0 : Int)) = g := by
    subst ha
    simp only [List.length_append, List.length_singleton, Nat.add_sub_cancel]
    exact getD_mid pre [] g _
  generalize hnn : at'.length = n at *
  unfold F39s0
  rw [hnn]
  have et : toN (ofN n) = n := rfl
  rw [et, ofN_eq]
  rw [gd_true (by omega), gd_true (by omega), gd_true (by omega), gd_true (by omega), gd_true (by omega), gd_true (by omega), gd_true (by omega), gd_true (by omega), gd_true (by omega)]
  rw [List.length_replicate, List.length_replicate]
  obtain ⟨o, ⟨ho1, ho2⟩, h0⟩ := f39_l0_spec n (2 + n + n + cl.length + n) hn (by omega)
  rw [h0, Option.bind_some, ho1, gd_true (by omega), gd_true (show toN (0 : Int) < n from by show 0 < n; omega)]
  have J : JD n 0 (o.set 0 0) o (List.replicate n false) := by
    refine ⟨by simpa using ho1, ho1, by simp, by simp, fun j hj hd => ?_, fun j hj hd hf => ?_⟩
    · simp [List.getD, hj] at hd
    · rw [getD_set_if _ _ _ _ _ (by omega)] at hf
      show o.getD j 0 = -1
      exact ho2 j hj
  have t0 : toN (0 : Int) = 0 := rfl
  rw [t0]
  obtain ⟨r, hr, h1⟩ := f39_l1_spec at' cl n hnn hc hn hn1 n 0 (2 + n + cl.length + (o.set 0 0).length + n + n) (o.set 0 0) o (List.replicate n false) (by omega) (by omega) J
  rw [h1, Option.bind_some]
  cases r with
  | inr q =>
    have : q = ([], cl) := hr
    subst this
    exact ⟨[], rfl, .inl rfl⟩
  | inl b =>
    obtain ⟨hb, done, k, hk, hch⟩ := hr
    simp only
    have ew : wrapI .i64 ((n : Int) - (1 : Int)) = ((n - 1 : Nat) : Int) := by rw [wrapI_i64] <;> omega
    rw [ew]
    have first : ∀ f, k + 1 < f → ∃ t, f39s0_l7 at' b f (((n - 1 : Nat) : Int), ([] : List (Int × Int))) = some (g :: t) ∧ t.length ≤ k := by
      intro f hf
      obtain ⟨f, rfl⟩ : ∃ g, f = g + 1 := ⟨f - 1, by omega⟩
      have step : f39s0_l7 at' b (f + 1) (((n - 1 : Nat) : Int), ([] : List (Int × Int))) = f39s0_l7_b at' b (f39s0_l7 at' b f) (((n - 1 : Nat) : Int), []) := rfl
      rw [step]
      unfold f39s0_l7_b
      show ∃ t, (bif decide ((0 : Int) ≤ ((n - 1 : Nat) : Int)) then (bif true then _ else _) else _) = some (g :: t) ∧ _
      rw [decide_eq_true (by omega)]
      simp only [cond_true]
      have t3 : toN ((n - 1 : Nat) : Int) = n - 1 := rfl
      rw [t3, hnn, hb, gd_true (by omega), gd_true (by omega), gd_true (by simp), gd_true (by omega), gd_true (by omega), gd_true (by omega), hat]
      obtain ⟨t, e1, e2⟩ := f39_l7_spec at' n b done hnn hb hn k _ [g] f hch (by omega) (by simp) (by simp; omega)
      refine ⟨t, ?_, e2⟩
      rw [List.nil_append, e1]
      rfl
    obtain ⟨t, e1, e2⟩ := first (2 + n + b.length + cl.length + ([] : List (Int × Int)).length) (by omega)
    rw [e1, Option.bind_some, F56s0_spec _ (by simp; omega), Option.bind_some]
    refine ⟨(g :: t).reverse, ?_, .inr ⟨by simp, by simp; omega⟩⟩
    rw [gd_true (by simp)]
end Go.Sw

namespace Go.Sw
set_option linter.unusedSimpArgs false
set_option linter.unusedVariables false

/-! ## errors of a search -/
def errV (l : List Clamp) (a b : Int × Int) : Int :=
  bif l.any bent then 1 else bif decide (8 < l.length) then 3 else bif (far a.1 || far a.2 || far b.1 || far b.2) then 11 else bif l.any farC then 11 else
    bif l.any (fun c => inC c a) then 15 else bif l.any (fun c => inC c b) then 15 else 0

theorem ofN_lt8 (n : Nat) : decide ((8 : Int) < ofN n) = decide (8 < n) := by
  rw [ofN_eq]
  exact decide_eq_decide.2 (by omega)

def corners (c : Clamp) : List (Int × Int) := [(c.1, c.2.1), (c.2.2.1, c.2.1), (c.2.2.1, c.2.2.2.1), (c.1, c.2.2.2.1)]

theorem f14_l0_spec (l : List Clamp) (a : Int × Int) (f : Nat) (hl : l.length ≤ 100) (hf : l.length < f) : ∃ r : List (Int × Int), r.length ≤ 1 + 4 * l.length ∧ f14_l0 l (ofN l.length) f ((0 : Int), [a]) = some r := by
  have h := loop_ex (fun (i : Nat) (s : List (Int × Int)) => ((i : Int), s)) (f14_l0_b l (ofN l.length)) l.length (fun i s => s.length ≤ 1 + 4 * i) (fun r => r.length ≤ 1 + 4 * l.length)
    (fun i s hi hs => by
      refine .inl ⟨s ++ corners (l.getD i Z5), by simp [corners]; omega, fun again => ?_⟩
      unfold f14_l0_b
      show (bif decide ((i : Int) < _) then _ else _) = _
      rw [dec_lt hi]
      simp only [cond_true]
      rw [gd_true (by omega), gd_true (by omega), gd_true (by simp; omega), wrap_succ (by omega)]
      rfl)
    (fun s hs => ⟨s, hs, fun again => by unfold f14_l0_b; show (bif decide ((l.length : Int) < _) then _ else _) = _; rw [dec_nlt (Nat.le_refl _)]; rfl⟩)
    l.length 0 f [a] (by omega) (by omega) (by simp)
  exact h

theorem F14_spec (l : List Clamp) (a b : Int × Int) (hl : l.length ≤ 100) :
    ∃ r, F14 l a b = some r ∧ (errV l a b ≠ 0 → r = ([], errV l a b)) ∧ (errV l a b = 0 → (r = ([], 16)) ∨ (r.2 = 0 ∧ r.1.getLast? = some b ∧ r.1.length ≤ 1000)) := by
  unfold F14 errV
  rw [F34s0_spec _ (by omega), Option.bind_some]
  cases h1 : l.any bent with
  | true => exact ⟨_, rfl, fun _ => rfl, fun h => absurd h (by simp)⟩
  | false =>
    simp only [cond_false]
    rw [ofN_lt8]
    cases h2 : decide (8 < l.length) with
    | true => exact ⟨_, rfl, fun _ => rfl, fun h => absurd h (by simp)⟩
    | false =>
      simp only [cond_false]
      rw [F24_spec _ (by simp), Option.bind_some]
      have e : ([a.1, a.2, b.1, b.2] : List Int).any far = (far a.1 || far a.2 || far b.1 || far b.2) := by simp [Bool.or_assoc]
      rw [e]
      cases h3 : (far a.1 || far a.2 || far b.1 || far b.2) with
      | true => exact ⟨_, rfl, fun _ => rfl, fun h => absurd h (by simp)⟩
      | false =>
        simp only [cond_false]
        rw [F34s1_spec _ (by omega), Option.bind_some]
        cases h4 : l.any farC with
        | true => exact ⟨_, rfl, fun _ => rfl, fun h => absurd h (by simp)⟩
        | false =>
          simp only [cond_false]
          rw [F37s0_spec _ _ _ (by omega), F37s0_spec _ _ _ (by omega)]
          simp only [Option.bind_some, Bool.not_not, ent_same]
          cases h5 : l.any (fun c => inC c a) with
          | true => exact ⟨_, rfl, fun _ => rfl, fun h => absurd h (by simp)⟩
          | false =>
            simp only [cond_false]
            cases h6 : l.any (fun c => inC c b) with
            | true => exact ⟨_, rfl, fun _ => rfl, fun h => absurd h (by simp)⟩
            | false =>
              simp only [cond_false]
              have h2' : l.length ≤ 8 := by
                have := of_decide_eq_false h2
                omega
              cases h7 : eqD t28 a b with
              | true =>
                have hab : a = b := by
                  obtain ⟨a1, a2⟩ := a
                  obtain ⟨b1, b2⟩ := b
                  simp only [eqD, Bool.and_eq_true, beq_iff_eq] at h7
                  rw [h7.1, h7.2]
                exact ⟨_, rfl, fun h => absurd rfl h, fun _ => .inr ⟨rfl, by rw [hab]; rfl, by simp⟩⟩
              | false =>
                simp only [cond_false]
                obtain ⟨o, ho, h0⟩ := f14_l0_spec l a (2 + l.length + ([a] : List (Int × Int)).length) (by omega) (by omega)
                rw [h0, Option.bind_some, gd_true (by simp; omega)]
                obtain ⟨r, hr, hq⟩ := F39s0_spec (o ++ [b]) l b o rfl (by omega) (by simp; omega)
                rw [hr, Option.bind_some]
                rcases hq with rfl | ⟨hq1, hq2⟩
                · exact ⟨_, rfl, fun h => absurd rfl h, fun _ => .inl rfl⟩
                · cases r with
                  | nil => cases hq1
                  | cons x xs =>
                    refine ⟨_, rfl, fun h => absurd rfl h, fun _ => .inr ⟨rfl, hq1, ?_⟩⟩
                    simp only [List.length_append, List.length_singleton] at hq2 ⊢
                    omega

theorem F32_spec (l : List Clamp) (a b : Int × Int) (hl : l.length ≤ 1000) : F32 l a b = some (errV l a b) := by
  have g0 := loop_int (f32_l0_b l) l.length (fun i => if bent (l.getD i Z5) = true then some (.inr (1 : Int)) else none) (.inl ())
    (fun again i hi => by
      unfold f32_l0_b
      show (bif decide ((i : Int) < _) then _ else _) = _
      rw [dec_lt hi]
      simp only [cond_true]
      rw [gd_true (by omega), gd_true (by omega), gd_true (by omega), gd_true (by omega), wrap_succ (by omega)]
      rw [gd_true (by omega), gd_true (by omega), gd_true (by omega), gd_true (by omega)]
      show (bif decide ((List.getD l i Z5).2.2.1 < (List.getD l i Z5).1) then _ else (bif decide ((List.getD l i Z5).2.2.2.1 < (List.getD l i Z5).2.1) then _ else _)) = _
      unfold bent
      cases decide ((List.getD l i Z5).2.2.1 < (List.getD l i Z5).1) <;> cases decide ((List.getD l i Z5).2.2.2.1 < (List.getD l i Z5).2.1) <;> rfl)
    (fun again => by unfold f32_l0_b; show (bif decide ((l.length : Int) < _) then _ else _) = _; rw [dec_nlt (Nat.le_refl _)]; rfl)
    l.length 0 (2 + l.length) (by omega) (by omega)
  have g1 := loop_int (f32_l1_b l) l.length (fun i => if farC (l.getD i Z5) = true then some (.inr (11 : Int)) else none) (.inl ())
    (fun again i hi => by
      unfold f32_l1_b
      show (bif decide ((i : Int) < _) then _ else _) = _
      rw [dec_lt hi]
      simp only [cond_true]
      have k1 : (0 : Int) ≤ (i : Int) := by omega
      have k2 : (i : Int) < ((l.length : Nat) : Int) := by omega
      simp only [gd_true k1, gd_true k2, F31_spec, Option.bind_some]
      rw [wrap_succ (by omega)]
      show (bif far (List.getD l i Z5).1 then _ else (bif far (List.getD l i Z5).2.1 then _ else (bif far (List.getD l i Z5).2.2.1 then _ else (bif far (List.getD l i Z5).2.2.2.1 then _ else _)))) = _
      unfold farC
      cases far (List.getD l i Z5).1 <;> cases far (List.getD l i Z5).2.1 <;> cases far (List.getD l i Z5).2.2.1 <;> cases far (List.getD l i Z5).2.2.2.1 <;> rfl)
    (fun again => by unfold f32_l1_b; show (bif decide ((l.length : Int) < _) then _ else _) = _; rw [dec_nlt (Nat.le_refl _)]; rfl)
    l.length 0 (2 + l.length) (by omega) (by omega)
  have g2 := loop_int (f32_l2_b l a b) l.length (fun i => if (inC (l.getD i Z5) a || inC (l.getD i Z5) b) = true then some (.inr (15 : Int)) else none) (.inl ())
    (fun again i hi => by
      unfold f32_l2_b
      show (bif decide ((i : Int) < _) then _ else _) = _
      rw [dec_lt hi]
      simp only [cond_true]
      have k1 : (0 : Int) ≤ (i : Int) := by omega
      have k2 : (i : Int) < ((l.length : Nat) : Int) := by omega
      simp only [gd_true k1, gd_true k2, F54_spec, Option.bind_some]
      rw [wrap_succ (by omega)]
      show (bif inC (List.getD l i Z5) a then _ else (bif inC (List.getD l i Z5) b then _ else _)) = _
      cases inC (List.getD l i Z5) a <;> cases inC (List.getD l i Z5) b <;> rfl)
    (fun again => by unfold f32_l2_b; show (bif decide ((l.length : Int) < _) then _ else _) = _; rw [dec_nlt (Nat.le_refl _)]; rfl)
    l.length 0 (2 + l.length) (by omega) (by omega)
  rw [runI_any l Z5 bent _ _ _ _ (by omega), List.drop_zero] at g0
  rw [runI_any l Z5 farC _ _ _ _ (by omega), List.drop_zero] at g1
  rw [runI_any l Z5 (fun c => inC c a || inC c b) _ _ _ _ (by omega), List.drop_zero] at g2
  have e2 : (l.any fun c => inC c a || inC c b) = ((l.any fun c => inC c a) || (l.any fun c => inC c b)) := by
    induction l with
    | nil => rfl
    | cons x xs ih =>
      simp only [List.any_cons]
      rw [show (xs.any fun c => inC c a || inC c b) = ((xs.any fun c => inC c a) || (xs.any fun c => inC c b)) from by
        clear ih g0 g1 g2 hl
        induction xs with
        | nil => rfl
        | cons y ys ih2 => simp only [List.any_cons, ih2]; cases inC y a <;> cases inC y b <;> cases (ys.any fun c => inC c a) <;> rfl]
      cases inC x a <;> cases inC x b <;> cases (xs.any fun c => inC c a) <;> rfl
  rw [e2] at g2
  unfold F32 errV f32_l0 f32_l1 f32_l2
  rw [show (0 : Int) = ((0 : Nat) : Int) from rfl, g0, g1, g2]
  simp only [F31_spec, Option.bind_some, ofN_lt8]
  cases l.any bent <;> cases decide (8 < l.length) <;> cases far a.1 <;> cases far a.2 <;> cases far b.1 <;> cases far b.2 <;> cases l.any farC <;> cases (l.any fun c => inC c a) <;> cases (l.any fun c => inC c b) <;> rfl
end Go.Sw

namespace Go.Sw
/-! the examples of the document, worked out -/
theorem awake5 : F5 = some true := by kernel_rfl
end Go.Sw

namespace Go.Sw
set_option linter.unusedSimpArgs false
set_option linter.unusedVariables false

def outP (p : Pos) : Bool := far p.1 || far p.2.1 || far p.2.2

theorem det_spec (s : Setup) (a b : Pos) (z r pl : Int) (hl : (clamps s).length ≤ 6) :
    ∃ y f, F12 s a b z r pl = some y ∧ F13 s a b z r pl = some f ∧ ((f ≠ 0 ∧ y = ([], f)) ∨ (f = 0 ∧ ∃ p, F14 (bl z r (clamps s)) (a.1, a.2.1) (b.1, b.2.1) = some p ∧
      ((p.2 ≠ 0 ∧ y = ([], p.2)) ∨ (p.2 = 0 ∧ p.1.getLast? = some (b.1, b.2.1) ∧ p.1.length ≤ 1000 ∧ y = ((descM (pathM z p.1 (addM (a, []) (a.1, a.2.1, z) 0)) b.2.2 pl).2, 0) ∧ 1000 ≤ z ∧ 0 < pl ∧ b.2.2 ≤ z)))) := by
  unfold F12 F13
  rw [F22_spec _ (by omega), F23_spec _ (by omega), Option.bind_some, Option.bind_some]
  cases h1 : okS s with
  | false => exact ⟨_, _, rfl, rfl, .inl ⟨by decide, rfl⟩⟩
  | true =>
  show ∃ y f, (bif decide (r < 0) then _ else _) = some y ∧ (bif decide (r < 0) then _ else _) = some f ∧ _
  by_cases h2 : r < 0
  · rw [decide_eq_true h2]; exact ⟨_, _, rfl, rfl, .inl ⟨by decide, rfl⟩⟩
  rw [decide_eq_false h2]
  simp only [cond_false]
  by_cases h3 : pl ≤ 0
  · rw [decide_eq_true h3]; exact ⟨_, _, rfl, rfl, .inl ⟨by decide, rfl⟩⟩
  rw [decide_eq_false h3]
  simp only [cond_false]
  by_cases h4 : z < 1000
  · rw [decide_eq_true h4]; exact ⟨_, _, rfl, rfl, .inl ⟨by decide, rfl⟩⟩
  rw [decide_eq_false h4]
  simp only [cond_false]
  by_cases h5 : z < a.2.2
  · rw [decide_eq_true h5]; exact ⟨_, _, rfl, rfl, .inl ⟨by decide, rfl⟩⟩
  rw [decide_eq_false h5]
  simp only [cond_false]
  by_cases h6 : z < b.2.2
  · rw [decide_eq_true h6]; exact ⟨_, _, rfl, rfl, .inl ⟨by decide, rfl⟩⟩
  rw [decide_eq_false h6]
  simp only [cond_false]
  rw [F19_spec s z 0 (by omega), F15_spec s z 0 (by omega), F19_spec s z r (by omega), F15_spec s z r (by omega)]
  simp only [Option.bind_some, ofN_lt8]
  have hb0 := bl_length z 0 (clamps s)
  have hbr := bl_length z r (clamps s)
  rw [decide_eq_false (show ¬ 8 < (bl z 0 (clamps s)).length by omega)]
  simp only [cond_false]
  rw [F24_spec _ (by simp)]
  simp only [F30_spec, F31_spec, Option.bind_some]
  have e : ([a.1, a.2.1, a.2.2, b.1, b.2.1, b.2.2, r, z] : List Int).any far = (outP a || outP b || far z || decide ((10000000 : Int) < r)) := by
    have er : far r = decide ((10000000 : Int) < r) := by
      unfold far
      rw [decide_eq_false (show ¬ r < -10000000 by omega), Bool.or_false]
    simp only [List.any_cons, List.any_nil, outP, er]
    cases far a.1 <;> cases far a.2.1 <;> cases far a.2.2 <;> cases far b.1 <;> cases far b.2.1 <;> cases far b.2.2 <;> cases far z <;> cases decide ((10000000 : Int) < r) <;> rfl
  rw [e]
  show ∃ y f, (bif (outP a || outP b || far z || decide ((10000000 : Int) < r)) then _ else _) = some y ∧ (bif outP a then _ else (bif outP b then _ else (bif far z then _ else (bif decide ((10000000 : Int) < r) then _ else _)))) = some f ∧ _
  cases h7 : outP a with
  | true => exact ⟨_, _, rfl, rfl, .inl ⟨by decide, rfl⟩⟩
  | false =>
  cases h8 : outP b with
  | true => exact ⟨_, _, rfl, rfl, .inl ⟨by decide, rfl⟩⟩
  | false =>
  cases h9 : far z with
  | true => exact ⟨_, _, rfl, rfl, .inl ⟨by decide, rfl⟩⟩
  | false =>
  cases h10 : decide ((10000000 : Int) < r) with
  | true => exact ⟨_, _, rfl, rfl, .inl ⟨by decide, rfl⟩⟩
  | false =>
  simp only [Bool.or_false, cond_false]
  have e25 : ∀ p : Pos, F25 p = some (p.1, p.2.1) := fun p => rfl
  have e33 : ∀ p : Pos, F33 p = some (p.1, p.2.1) := fun p => rfl
  simp only [e25, e33, Option.bind_some]
  rw [F32_spec _ _ _ (by omega)]
  obtain ⟨p, hp, q1, q2⟩ := F14_spec (bl z r (clamps s)) (a.1, a.2.1) (b.1, b.2.1) (by omega)
  rw [hp]
  simp only [Option.bind_some]
  by_cases he : errV (bl z r (clamps s)) (a.1, a.2.1) (b.1, b.2.1) = 0
  · have hne : p.2 ≠ 0 → p.1 = [] → ((bif (p.2 != (0 : Int)) then some (([] : List Move), p.2) else
        (F26s0 z a ([] : List Move)).bind fun y8 => ((f12_l0 p.1 (ofN (List.length p.1)) (2 + List.length p.1 + List.length y8.2) ((0 : Int), y8.1, y8.2)).bind fun o18 => (F28s0 b.2.2 pl o18.1 o18.2).bind fun y19 => some (y19.2, (0 : Int)))) = some ([], p.2)) := by
      intro h _
      have : (p.2 != (0 : Int)) = true := by simpa using h
      rw [this]; rfl
    rcases q2 he with rfl | ⟨g1, g2, g3⟩
    · exact ⟨_, _, hne (by decide) rfl, rfl, .inr ⟨he, _, rfl, .inl ⟨by decide, rfl⟩⟩⟩
    · refine ⟨_, _, ?_, rfl, .inr ⟨he, p, rfl, .inr ⟨g1, g2, g3, rfl, by omega, by omega, by omega⟩⟩⟩
      rw [g1]
      show ((F26s0 z a ([] : List Move)).bind fun y8 => ((f12_l0 p.1 (ofN (List.length p.1)) (2 + List.length p.1 + List.length y8.2) ((0 : Int), y8.1, y8.2)).bind fun o18 => (F28s0 b.2.2 pl o18.1 o18.2).bind fun y19 => some (y19.2, (0 : Int)))) = _
      rw [F26s0_spec _ _ _ (by simp), Option.bind_some]
      have k1 := addM_len (a, []) (a.1, a.2.1, z) 0
      simp only [List.length_nil] at k1
      rw [F12_loop z p.1 _ (by rw [addM_at]) g3 (by omega) _ (by omega), Option.bind_some]
      have k2 := pathM_len z p.1 (addM (a, []) (a.1, a.2.1, z) 0)
      have k3 : (pathM z p.1 (addM (a, []) (a.1, a.2.1, z) 0)).2.length ≤ 100000 := by omega
      rw [F28s0_spec _ _ _ _ (by omega) k3]
      rfl
  · have hq := q1 he
    subst hq
    refine ⟨_, _, ?_, rfl, .inl ⟨he, rfl⟩⟩
    have : (errV (bl z r (clamps s)) (a.1, a.2.1) (b.1, b.2.1) != (0 : Int)) = true := by simpa using he
    show (bif (errV (bl z r (clamps s)) (a.1, a.2.1) (b.1, b.2.1) != (0 : Int)) then _ else _) = _
    rw [this]; rfl

theorem truth4 (s : Setup) (l : Pos × Pos) (n : Int × Int × Int) : F4 s l n = some true := by
  unfold F4
  rw [awake5]
  simp only [Option.bind_some, Bool.not_true, cond_false]
  unfold F11
  simp only [Option.bind_some]
  rw [show List.length s.2.2.2.2.2.2.1 = (clamps s).length from rfl, ofN_eq]
  by_cases hl : (clamps s).length ≤ 6
  · rw [decide_eq_true (show (((clamps s).length : Nat) : Int) ≤ 6 by omega)]
    obtain ⟨y, f, h12, h13, h⟩ := det_spec s l.1 l.2 n.1 n.2.1 n.2.2 hl
    simp only [Bool.not_true, cond_false]
    rw [h12, Option.bind_some, h13, Option.bind_some]
    rcases h with ⟨h1, rfl⟩ | ⟨rfl, p, hp, h⟩
    · have : (f != (0 : Int)) = true := by simpa using h1
      rw [this]
      simp [ofN_eq]
    · show ((F15 s n.1 n.2.1).bind _) = some true
      rw [F15_spec s _ _ (by omega), Option.bind_some]
      have e10 : ∀ x y : Int, F10 x y = some (x, y) := fun _ _ => rfl
      rw [e10, Option.bind_some, e10, Option.bind_some, hp, Option.bind_some]
      rcases h with ⟨h1, rfl⟩ | ⟨g1, g2, g3, rfl, g4, g5, g6⟩
      · have : (p.2 != (0 : Int)) = true := by simpa using h1
        rw [this]
        simp [ofN_eq]
      · rw [g1]
        show ((F17 l.1 l.2 n.1 n.2.2 p.1).bind _) = some true
        rw [F17_spec _ _ _ _ _ g3, Option.bind_some]
        have hat := pathM_at n.1 p.1 (addM (l.1, []) (l.1.1, l.1.2.1, n.1) 0) _ g2
        have hsame := desc_same _ l.2 n.1 n.2.2 hat g4
        rw [hsame]
        have k1 := addM_len (l.1, []) (l.1.1, l.1.2.1, n.1) 0
        simp only [List.length_nil] at k1
        have k2 := pathM_len n.1 p.1 (addM (l.1, []) (l.1.1, l.1.2.1, n.1) 0)
        have hgd := pathM_gd g4 (Int.le_refl _) p.1 (addM (l.1, []) (l.1.1, l.1.2.1, n.1) 0) (by rw [addM_at]) (rise_gd l.1 g4)
        obtain ⟨d1, d2⟩ := desc_gd g4 g6 hat g5 hgd
        have klen : (descR (pathM n.1 p.1 (addM (l.1, []) (l.1.1, l.1.2.1, n.1) 0)) l.2 n.2.2).2.length ≤ 100000 := by
          unfold descR
          have add1 : ∀ (q : Pos × List Move) to r, (addM q to r).2.length ≤ q.2.length + 1 := addM_len
          generalize (bif decide (l.2.2.2 < 1000) then (l.2.1, l.2.2.1, (1000 : Int)) else l.2 : Pos) = stop
          have q1 : (bif decide (stop.2.2 < (pathM n.1 p.1 (addM (l.1, []) (l.1.1, l.1.2.1, n.1) 0)).1.2.2) then addM (pathM n.1 p.1 (addM (l.1, []) (l.1.1, l.1.2.1, n.1) 0)) stop 0 else pathM n.1 p.1 (addM (l.1, []) (l.1.1, l.1.2.1, n.1) 0) : Pos × List Move).2.length ≤ 5000 := by
            have := add1 (pathM n.1 p.1 (addM (l.1, []) (l.1.1, l.1.2.1, n.1) 0)) stop 0
            cases decide (stop.2.2 < (pathM n.1 p.1 (addM (l.1, []) (l.1.1, l.1.2.1, n.1) 0)).1.2.2) <;> simp only [cond_true, cond_false] <;> omega
          simp only
          generalize (bif decide (stop.2.2 < (pathM n.1 p.1 (addM (l.1, []) (l.1.1, l.1.2.1, n.1) 0)).1.2.2) then addM (pathM n.1 p.1 (addM (l.1, []) (l.1.1, l.1.2.1, n.1) 0)) stop 0 else pathM n.1 p.1 (addM (l.1, []) (l.1.1, l.1.2.1, n.1) 0) : Pos × List Move) = q at q1
          have := add1 q l.2 n.2.2
          cases decide (l.2.2.2 < 1000) <;> simp only [cond_true, cond_false] <;> omega
        show ((F16 _ _).bind _) = some true
        rw [F16_refl _ (Nat.le_trans klen (by decide)), Option.bind_some]
        show ((F8 l.1 l.2 _ n.1).bind _) = some true
        rw [F8_spec _ _ _ _ (Nat.le_trans klen (by decide)) d1.1, d1.2, d2, (eqP _ _).2 rfl]
        rfl
  · rw [decide_eq_false (show ¬ (((clamps s).length : Nat) : Int) ≤ 6 by omega)]
    rfl
end Go.Sw
