/- The Lean function of SetupHighest is true at every input; no conditions. -/
import Derived.Test.YtnjgokpdlolapaaGreatDoorGb
import Derived.Test.YtnjgokpdlolapaaGreatDoorAwb
namespace Go.Sw
set_option linter.unusedSimpArgs false
set_option linter.unusedVariables false
theorem wrapI_i64 {n : Int} (h1 : -9223372036854775808 ≤ n) (h2 : n ≤ 9223372036854775807) : wrapI .i64 n = n := by
 simp only [wrapI, IntKind.wrap, IntKind.signed, IntKind.bits]
 simp
 split <;> omega
theorem wrapI_u64 {n : Int} (h1 : 0 ≤ n) (h2 : n ≤ 18446744073709551615) : wrapI .u64 n = n := by
 simp only [wrapI, IntKind.wrap, IntKind.signed, IntKind.bits]
 simp
 omega
theorem wrapI_u32 {n : Int} (h1 : 0 ≤ n) (h2 : n ≤ 4294967295) : wrapI .u32 n = n := by
 simp only [wrapI, IntKind.wrap, IntKind.signed, IntKind.bits]
 simp
 omega
theorem toN_eq (n : Int) : toN n = n.toNat := rfl
theorem ofN_eq (n : Nat) : ofN n = (n : Int) := rfl
theorem gd_true {α : Type} {p : Prop} [Decidable p] {k : Option α} (h : p) : gd p k = k := if_pos h
theorem bif_true {α : Type} {b : Bool} {x y : α} (h : b = true) : (bif b then x else y) = x := by subst h; rfl
theorem bif_false {α : Type} {b : Bool} {x y : α} (h : b = false) : (bif b then x else y) = y := by subst h; rfl
def Lim (l : List Int) : Prop := ∀ x ∈ l, 0 ≤ x ∧ x < 1000000000
def trimL (l : List Int) : List Int := (l.reverse.dropWhile (· == 0)).reverse
theorem trimL_nil : trimL [] = [] := rfl
theorem trimL_zero (l : List Int) : trimL (l ++ [0]) = trimL l := by
 unfold trimL
 rw [List.reverse_append]
 rfl
theorem trimL_pos (l : List Int) {x : Int} (h : x ≠ 0) : trimL (l ++ [x]) = l ++ [x] := by
 unfold trimL
 rw [List.reverse_append]
 show (List.dropWhile (· == 0) (x :: l.reverse)).reverse = _
 rw [List.dropWhile_cons_of_neg (by simpa using h)]
 simp
def small (l : List Int) : Prop := l.length ≤ 1000000000
theorem getD_concat (l : List Int) (x d : Int) : List.getD (l ++ [x]) l.length d = x := by simp [List.getD]
theorem f159_l0_spec : ∀ (n : Nat) (a : List Int), a.length < n → small a → f159_l0 n a = some (trimL a) := by
 intro n
 induction n with
 | zero => intro a h; omega
 | succ n ih =>
   intro a h hs
   show f159_l0_b (f159_l0 n) a = _
   unfold f159_l0_b
   unfold small at hs
   rcases List.eq_nil_or_concat a with rfl | ⟨l, x, rfl⟩
   ·rfl
   ·have hl : (l.concat x).length = l.length + 1 := by simp
    have e1 : wrapI .i64 (ofN (l.concat x).length - 1) = (l.length : Int) := by
     rw [ofN_eq, hl, wrapI_i64] <;> omega
    rw [bif_true (by simp [ofN_eq, hl] <;> omega)]
    simp only [e1]
    rw [gd_true (by omega), gd_true (by rw [hl]; omega)]
    have e2 : List.getD (l.concat x) (toN (l.length : Int)) 0 = x := by
     rw [toN_eq, Int.toNat_natCast, List.concat_eq_append, getD_concat]
    simp only [e2]
    by_cases hx : x = 0
    ·subst hx
     rw [bif_true (b := ((0 : Int) == 0)) rfl, gd_true (by omega), gd_true (by rw [hl]; omega)]
     have e3 : List.take (Int.toNat (l.length : Int)) (l.concat 0) = l := by simp
     rw [e3, ih l (by rw [hl] at h; omega) (by unfold small; rw [hl] at hs; omega), List.concat_eq_append, trimL_zero]
    ·rw [bif_false (by simpa using hx), List.concat_eq_append, trimL_pos l hx]
theorem F159_spec {a : List Int} (hs : small a) : F159 a = some (trimL a) := by
 unfold F159
 rw [f159_l0_spec _ a (by omega) hs]
 rfl
def val : List Int → Int
 | [] => 0
 | x :: xs => x + 1000000000 * val xs
theorem val_append (l m : List Int) : val (l ++ m) = val l + 1000000000 ^ l.length * val m := by
 induction l with
 | nil => simp [val]
 | cons x xs ih =>
   rw [List.cons_append, val, val, ih, List.length_cons, Int.pow_succ, Int.mul_add, Int.mul_comm (1000000000 ^ xs.length) 1000000000, Int.mul_assoc]
   omega
theorem pow_pos' (n : Nat) : (0 : Int) < 1000000000 ^ n := Int.pow_pos (by decide)
theorem Lim.cons {x : Int} {l : List Int} (h : Lim (x :: l)) : (0 ≤ x ∧ x < 1000000000) ∧ Lim l := ⟨h x (by simp), fun y hy => h y (by simp [hy])⟩
theorem Lim.append {l m : List Int} (h1 : Lim l) (h2 : Lim m) : Lim (l ++ m) := by
 intro x hx
 rcases List.mem_append.1 hx with h | h
 ·exact h1 x h
 ·exact h2 x h
theorem Lim.left {l m : List Int} (h : Lim (l ++ m)) : Lim l := fun x hx => h x (by simp [hx])
theorem Lim.take {l : List Int} (h : Lim l) (n : Nat) : Lim (l.take n) := fun x hx => h x (List.mem_of_mem_take hx)
theorem Lim.drop {l : List Int} (h : Lim l) (n : Nat) : Lim (l.drop n) := fun x hx => h x (List.mem_of_mem_drop hx)
theorem Lim.one {x : Int} (h : 0 ≤ x ∧ x < 1000000000) : Lim [x] := by intro y hy; simp at hy; subst hy; exact h
theorem Lim.nil : Lim [] := by intro x hx; cases hx
theorem val_nonneg {l : List Int} (h : Lim l) : 0 ≤ val l := by
 induction l with
 | nil => exact Int.le_refl _
 | cons x xs ih =>
   obtain ⟨h1, h2⟩ := h.cons
   have := ih h2
   rw [val]; omega
theorem val_lt {l : List Int} (h : Lim l) : val l < 1000000000 ^ l.length := by
 induction l with
 | nil => decide
 | cons x xs ih =>
   obtain ⟨h1, h2⟩ := h.cons
   have := ih h2
   rw [val, List.length_cons, Int.pow_succ]
   omega
theorem getD_lt {l : List Int} {i : Nat} (h : i < l.length) (d : Int) : List.getD l i d = l[i] := by simp [List.getD, h]
theorem Lim.getD {l : List Int} (h : Lim l) (i : Nat) : 0 ≤ List.getD l i 0 ∧ List.getD l i 0 < 1000000000 := by
 by_cases hi : i < l.length
 ·rw [getD_lt hi]; exact h _ (List.getElem_mem hi)
 ·simp [List.getD, List.getElem?_eq_none (Nat.le_of_not_lt hi)]
theorem trimL_concat (l : List Int) (x : Int) : trimL (l ++ [x]) = if x = 0 then trimL l else l ++ [x] := by
 by_cases h : x = 0
 ·rw [if_pos h, h, trimL_zero]
 ·rw [if_neg h, trimL_pos l h]
theorem concat_cases {α : Type} (P : List α → Prop) (h0 : P []) (h1 : ∀ l x, P l → P (l ++ [x])) : ∀ l, P l := by
 intro l
 have : ∀ m : List α, P m.reverse := by
  intro m
  induction m with
  | nil => exact h0
  | cons x xs ih => rw [List.reverse_cons]; exact h1 _ _ ih
 have h := this l.reverse
 rwa [List.reverse_reverse] at h
theorem val_zero_end (l : List Int) : val (l ++ [0]) = val l := by rw [val_append]; simp [val]
theorem trimL_val (l : List Int) : val (trimL l) = val l := by
 refine concat_cases (fun l => val (trimL l) = val l) rfl (fun l x ih => ?_) l
 rw [trimL_concat]
 split
 ·rename_i h; subst h; rw [ih, val_zero_end]
 ·rfl
theorem trimL_take (l : List Int) : trimL l = l.take (trimL l).length ∧ (trimL l).length ≤ l.length := by
 refine concat_cases (fun l => trimL l = l.take (trimL l).length ∧ (trimL l).length ≤ l.length) ⟨rfl, Nat.le_refl _⟩ (fun l x ih => ?_) l
 rw [trimL_concat]
 split
 ·obtain ⟨h1, h2⟩ := ih
  refine ⟨?_, by rw [List.length_append]; omega⟩
  rw [List.take_append_of_le_length h2]
  exact h1
 ·exact ⟨(List.take_length).symm, Nat.le_refl _⟩
theorem trimL_lim {l : List Int} (h : Lim l) : Lim (trimL l) := by
 rw [(trimL_take l).1]; exact h.take _
def Norm (l : List Int) : Prop := ∀ m x, l = m ++ [x] → x ≠ 0
theorem trimL_norm (l : List Int) : Norm (trimL l) := by
 refine concat_cases (fun l => Norm (trimL l)) (fun m x h => ?_) (fun l x ih => ?_) l
 ·rw [trimL_nil] at h
  have := congrArg List.length h
  simp at this
 ·rw [trimL_concat]
  split
  ·exact ih
  ·rename_i hx
   intro m y h
   have := List.append_inj' h rfl
   have h2 := this.2
   simp at h2
   subst h2
   exact hx
theorem norm_trim {l : List Int} (h : Norm l) : trimL l = l := by
 rcases List.eq_nil_or_concat l with rfl | ⟨m, x, rfl⟩
 ·rfl
 ·rw [List.concat_eq_append] at h ⊢
  exact trimL_pos m (h m x rfl)
theorem trimL_small {l : List Int} (h : small l) : small (trimL l) := Nat.le_trans (trimL_take l).2 h
theorem take_succ_getD {l : List Int} {k : Nat} (h : k < l.length) : l.take (k + 1) = l.take k ++ [List.getD l k 0] := by
 rw [List.take_add_one, getD_lt h]
 simp [h]
theorem f106_l0_spec (a : List Int) (hs : small a) : ∀ (k n : Nat), k ≤ a.length → k < n → f106_l0 a n (k : Int) = some ((trimL (a.take k)).length : Int) := by
 intro k
 induction k with
 | zero =>
   intro n _ hn
   cases n with
   | zero => omega
   | succ n =>
     show f106_l0_b a (f106_l0 a n) ((0 : Nat) : Int) = _
     unfold f106_l0_b
     rw [bif_false (by decide)]
     rfl
 | succ k ih =>
   intro n hk hn
   unfold small at hs
   cases n with
   | zero => omega
   | succ n =>
     show f106_l0_b a (f106_l0 a n) ((k + 1 : Nat) : Int) = _
     unfold f106_l0_b
     have e1 : wrapI .i64 (((k + 1 : Nat) : Int) - 1) = (k : Int) := by rw [wrapI_i64] <;> omega
     rw [bif_true (by simp <;> omega)]
     simp only [e1]
     rw [gd_true (by omega), gd_true (by omega)]
     rw [toN_eq, Int.toNat_natCast, take_succ_getD (by omega), trimL_concat]
     by_cases hx : List.getD a k 0 = 0
     ·rw [bif_true (by simpa using hx), if_pos hx]
      exact ih n (by omega) (by omega)
     ·rw [bif_false (by simpa using hx), if_neg hx]
      simp
      omega
theorem F106_spec {neg : Bool} {a : List Int} (hs : small a) : F106 neg a = some (neg && !(trimL a).isEmpty, trimL a) := by
 have h1 := f106_l0_spec a hs a.length (2 + a.length) (Nat.le_refl _) (by omega)
 rw [List.take_length] at h1
 obtain ⟨h2, h3⟩ := trimL_take a
 unfold F106
 rw [ofN_eq, h1]
 show (bif neg then _ else _) = _
 have e : List.take (Int.toNat ((trimL a).length : Int)) a = trimL a := by rw [Int.toNat_natCast]; exact h2.symm
 simp only [e]
 rw [gd_true (by omega), gd_true (by omega), gd_true (by omega), gd_true (by omega), gd_true (by omega), gd_true (by omega)]
 cases neg with
 | false => rfl
 | true =>
   show some (decide ((0 : Int) < ((trimL a).length : Int)), trimL a) = some (true && !(trimL a).isEmpty, trimL a)
   cases trimL a with
   | nil => rfl
   | cons x xs => simp
def cmpI (x y : Int) : Int := if x < y then -1 else if y < x then 1 else 0
theorem val_take_succ {l : List Int} {k : Nat} (h : k < l.length) : val (l.take (k + 1)) = val (l.take k) + 1000000000 ^ k * List.getD l k 0 := by
 rw [take_succ_getD h, val_append]
 simp [val, Nat.min_eq_left (Nat.le_of_lt h)]
theorem val_take_lt {l : List Int} (h : Lim l) {k : Nat} (hk : k ≤ l.length) : 0 ≤ val (l.take k) ∧ val (l.take k) < 1000000000 ^ k := by
 have := val_lt (h.take k)
 rw [List.length_take, Nat.min_eq_left hk] at this
 exact ⟨val_nonneg (h.take k), this⟩
theorem top_lt {B x y d e : Int} (hx : 0 ≤ x ∧ x < B) (hy : 0 ≤ y ∧ y < B) (h : d < e) : x + B * d < y + B * e := by
 have h1 : B * d + B ≤ B * e := by
  have : B * (d + 1) ≤ B * e := Int.mul_le_mul_of_nonneg_left (by omega) (by omega)
  rw [Int.mul_add] at this
  omega
 omega
theorem f114_l0_spec {a b : List Int} (ha : Lim a) (hb : Lim b) (hl : a.length = b.length) (hs : small a) : ∀ (k n : Nat), k ≤ a.length → k < n →
 f114_l0 a b n ((k : Int) - 1) = some (if val (a.take k) < val (b.take k) then .inr (-1) else if val (b.take k) < val (a.take k) then .inr 1 else .inl ()) := by
 intro k
 unfold small at hs
 have step : ∀ n x, f114_l0 a b (n + 1) x = f114_l0_b a b (f114_l0 a b n) x := fun _ _ => rfl
 induction k with
 | zero =>
   intro n _ hn
   cases n with
   | zero => omega
   | succ n =>
     rw [step]
     unfold f114_l0_b
     rw [bif_false (by decide)]
     simp [val]
 | succ k ih =>
   intro n hk hn
   cases n with
   | zero => omega
   | succ n =>
     rw [step]
     unfold f114_l0_b
     have e0 : ((k + 1 : Nat) : Int) - 1 = (k : Int) := by omega
     have e1 : wrapI .i64 ((k : Int) - 1) = (k : Int) - 1 := by rw [wrapI_i64] <;> omega
     simp only [e0, e1, toN_eq, Int.toNat_natCast]
     rw [bif_true (by simp)]
     have g1 : (0 : Int) ≤ (k : Int) := by omega
     have g2 : (k : Int) < ((a.length : Nat) : Int) := by omega
     have g3 : (k : Int) < ((b.length : Nat) : Int) := by omega
     simp only [gd_true g1, gd_true g2, gd_true g3]
     rw [val_take_succ (by omega : k < a.length), val_take_succ (by omega : k < b.length)]
     have va := val_take_lt ha (k := k) (by omega)
     have vb := val_take_lt hb (k := k) (by omega)
     by_cases h1 : List.getD a k 0 < List.getD b k 0
     ·rw [bif_true (by simpa using h1)]
      have := top_lt va vb h1
      rw [if_pos this]
     ·rw [bif_false (by simpa using h1)]
      by_cases h2 : List.getD b k 0 < List.getD a k 0
      ·rw [bif_true (by simpa using h2)]
       have := top_lt vb va h2
       rw [if_neg (by omega), if_pos this]
      ·rw [bif_false (by simpa using h2), ih n (by omega) (by omega)]
       have he : List.getD a k 0 = List.getD b k 0 := by omega
       rw [he]
       simp only [Int.add_lt_add_iff_right]
theorem norm_ge {l : List Int} (h : Lim l) (hn : Norm l) {n : Nat} (hl : n < l.length) : 1000000000 ^ n ≤ val l := by
 rcases List.eq_nil_or_concat l with rfl | ⟨m, x, rfl⟩
 ·exact absurd hl (Nat.not_lt_zero _)
 ·rw [List.concat_eq_append] at h hn hl ⊢
  have hx := hn m x rfl
  have hx2 := (h x (by simp)).1
  rw [val_append]
  have h1 := val_nonneg h.left
  have h2 : (1000000000 : Int) ^ n ≤ 1000000000 ^ m.length := by
   rw [List.length_append, List.length_singleton] at hl
   have h5 : (1000000000 : Nat) ^ n ≤ 1000000000 ^ m.length := Nat.pow_le_pow_right (by decide) (by omega)
   have h6 : (((1000000000 : Nat) ^ n : Nat) : Int) ≤ (((1000000000 : Nat) ^ m.length : Nat) : Int) := Int.ofNat_le.2 h5
   rw [Int.natCast_pow, Int.natCast_pow] at h6
   exact h6
  have h3 : (1000000000 : Int) ^ m.length * 1 ≤ 1000000000 ^ m.length * val [x] := Int.mul_le_mul_of_nonneg_left (by simp [val]; omega) (Int.le_of_lt (pow_pos' _))
  omega
theorem norm_lt {a b : List Int} (ha : Lim a) (hb : Lim b) (nb : Norm b) (h : a.length < b.length) : val a < val b := by
 have h1 := val_lt ha
 have h2 := norm_ge hb nb h
 omega
theorem F114_spec {a b : List Int} (ha : Lim a) (hb : Lim b) (sa : small a) (sb : small b) : F114 a b = some (cmpI (val a) (val b)) := by
 unfold F114
 rw [F159_spec sa, F159_spec sb]
 simp only [Option.bind_some, ofN_eq]
 have la := trimL_lim ha
 have lb := trimL_lim hb
 have na := trimL_norm a
 have nb := trimL_norm b
 rw [← trimL_val a, ← trimL_val b]
 have ta := trimL_small sa
 have tb := trimL_small sb
 by_cases h : (trimL a).length = (trimL b).length
 ·rw [bif_false (by rw [h]; simp)]
  unfold small at ta
  rw [wrapI_i64 (by omega) (by omega)]
  rw [f114_l0_spec la lb h (by exact ta) (trimL a).length _ (Nat.le_refl _) (by omega)]
  rw [List.take_length, h, List.take_length, Option.bind_some]
  unfold cmpI
  by_cases c1 : val (trimL a) < val (trimL b)
  ·rw [if_pos c1, if_pos c1]
  ·rw [if_neg c1, if_neg c1]
   by_cases c2 : val (trimL b) < val (trimL a)
   ·rw [if_pos c2, if_pos c2]
   ·rw [if_neg c2, if_neg c2]
 ·rw [bif_true (by simp; omega)]
  by_cases h1 : (trimL a).length < (trimL b).length
  ·rw [bif_true (by simpa using h1)]
   have := norm_lt la lb nb h1
   unfold cmpI
   rw [if_pos this]
  ·rw [bif_false (by simp; omega)]
   have := norm_lt lb la na (by omega)
   unfold cmpI
   rw [if_neg (by omega), if_pos this]
theorem val_take_succ' (l : List Int) (k : Nat) : val (l.take (k + 1)) = val (l.take k) + 1000000000 ^ k * List.getD l k 0 := by
 by_cases h : k < l.length
 ·exact val_take_succ h
 ·have : List.getD l k 0 = 0 := by simp [List.getD, List.getElem?_eq_none (Nat.le_of_not_lt h)]
  rw [this, List.take_of_length_le (by omega), List.take_of_length_le (by omega)]
  simp
theorem val_concat (l : List Int) (x : Int) : val (l ++ [x]) = val l + 1000000000 ^ l.length * x := by rw [val_append]; simp [val]
theorem f219_c2_spec {b : List Int} (hb : Lim b) {i : Nat} {x : Int} (hx : 0 ≤ x ∧ x ≤ 1000000000) : f219_c2 b (i : Int) x (decide ((i : Int) < ofN b.length)) = some (x + List.getD b i 0) := by
 unfold f219_c2
 have hd := hb.getD i
 by_cases h : i < b.length
 ·rw [bif_true (by simp [ofN_eq]; omega), gd_true (by omega), gd_true (by omega), toN_eq, Int.toNat_natCast, wrapI_u32 (by omega) (by omega)]
 ·have : List.getD b i 0 = 0 := by simp [List.getD, List.getElem?_eq_none (Nat.le_of_not_lt h)]
  rw [bif_false (by simp [ofN_eq]; omega), this]
  simp
theorem f219_c3_spec {x : Int} (hx : 0 ≤ x ∧ x < 2000000000) : f219_c3 0 x (decide ((1000000000 : Int) ≤ x)) = some (if 1000000000 ≤ x then (1, x - 1000000000) else (0, x)) := by
 unfold f219_c3
 by_cases h : 1000000000 ≤ x
 ·rw [bif_true (by simpa using h), if_pos h, wrapI_u32 (by omega) (by omega)]
 ·rw [bif_false (by simpa using h), if_neg h]
theorem f219_l1_spec {a b : List Int} (ha : Lim a) (hb : Lim b) (hs : small a) : ∀ (m i n : Nat) (c : Int) (out : List Int), i + m = a.length → m < n → (c = 0 ∨ c = 1) → Lim out → out.length = i →
 val out + 1000000000 ^ i * c = val (a.take i) + val (b.take i) →
 ∃ c' out', f219_l1 b a (a.length : Int) n (c, (i : Int), out) = some (c', out') ∧ (c' = 0 ∨ c' = 1) ∧ Lim out' ∧ out'.length = a.length ∧ val out' + 1000000000 ^ a.length * c' = val a + val (b.take a.length) := by
 unfold small at hs
 have step : ∀ n x, f219_l1 b a (a.length : Int) (n + 1) x = f219_l1_b b a (a.length : Int) (f219_l1 b a (a.length : Int) n) x := fun _ _ => rfl
 intro m
 induction m with
 | zero =>
   intro i n c out hi hn hc ho hlen hv
   cases n with
   | zero => omega
   | succ n =>
     rw [step]
     unfold f219_l1_b
     have : i = a.length := by omega
     subst this
     rw [List.take_length] at hv
     refine ⟨c, out, ?_, hc, ho, hlen, hv⟩
     simp
 | succ m ih =>
   intro i n c out hi hn hc ho hlen hv
   cases n with
   | zero => omega
   | succ n =>
     rw [step]
     unfold f219_l1_b
     have hda := ha.getD i
     have hdb := hb.getD i
     show ∃ c' out', (bif decide ((i : Int) < (a.length : Int)) then _ else _) = some (c', out') ∧ _
     rw [bif_true (by simp; omega), gd_true (by omega), gd_true (by omega), toN_eq, Int.toNat_natCast]
     have hx : 0 ≤ List.getD a i 0 + c ∧ List.getD a i 0 + c ≤ 1000000000 := by rcases hc with h | h <;> omega
     rw [wrapI_u32 (by omega) (by omega), f219_c2_spec hb hx, Option.bind_some, f219_c3_spec (by omega), Option.bind_some]
     have hlen2 : List.length (out ++ ([0] : List Int)) ≤ 1073741824 := by rw [List.length_append]; simp; omega
     have e1 : wrapI .i64 ((i : Int) + 1) = ((i + 1 : Nat) : Int) := by rw [wrapI_i64] <;> omega
     have hva := val_take_succ' a i
     have hvb := val_take_succ' b i
     have key : ∀ (c1 d : Int), (c1 = 0 ∨ c1 = 1) → 0 ≤ d ∧ d < 1000000000 → d + 1000000000 * c1 = List.getD a i 0 + c + List.getD b i 0 →
      ∃ c' out', (gd (List.length (out ++ ([d] : List Int)) ≤ 1073741824) (f219_l1 b a (a.length : Int) n (c1, wrapI .i64 ((i : Int) + 1), out ++ [d]))) = some (c', out') ∧ (c' = 0 ∨ c' = 1) ∧ Lim out' ∧ out'.length = a.length ∧ val out' + 1000000000 ^ a.length * c' = val a + val (b.take a.length) := by
      intro c1 d hc1 hd hsum
      rw [gd_true (by rw [List.length_append]; simp; omega), e1]
      refine ih (i + 1) n c1 (out ++ [d]) (by omega) (by omega) hc1 (ho.append (Lim.one hd)) (by simp [hlen]) ?_
      rw [val_concat, hlen, hva, hvb, Int.pow_succ]
      have h3 : 1000000000 ^ i * d + 1000000000 ^ i * 1000000000 * c1 = 1000000000 ^ i * (List.getD a i 0 + c + List.getD b i 0) := by rw [← hsum, Int.mul_add, Int.mul_assoc]
      rw [Int.mul_add, Int.mul_add] at h3
      omega
     by_cases hge : 1000000000 ≤ List.getD a i 0 + c + List.getD b i 0
     ·simp only [if_pos hge]
      exact key 1 _ (.inr rfl) (by omega) (by omega)
     ·simp only [if_neg hge]
      exact key 0 _ (.inl rfl) (by omega) (by omega)
theorem plus_aux {a b : List Int} (ha : Lim a) (hb : Lim b) (sa : small a) (h : b.length ≤ a.length) (n : Nat) (hn : a.length < n) :
 ∃ out, ((f219_l1 b a (ofN a.length) n ((0 : Int), (0 : Int), [])).bind fun o45 => gd (List.length (o45.2 ++ ([o45.1] : List Int)) ≤ 1073741824) <| some (o45.2 ++ ([o45.1] : List Int))) = some out ∧ Lim out ∧ out.length = a.length + 1 ∧ val out = val a + val b := by
 obtain ⟨c, out, h1, h2, h3, h4, h5⟩ := f219_l1_spec ha hb sa a.length 0 n 0 [] (by omega) hn (.inl rfl) Lim.nil rfl (by simp [val])
 rw [List.take_of_length_le h] at h5
 unfold small at sa
 refine ⟨out ++ [c], ?_, h3.append (Lim.one (by rcases h2 with h | h <;> omega)), by simp [h4], by rw [val_concat, h4]; exact h5⟩
 have h1' : f219_l1 b a (ofN a.length) n ((0 : Int), (0 : Int), []) = some (c, out) := h1
 rw [h1', Option.bind_some, gd_true (by rw [List.length_append, h4]; simp; omega)]
theorem F219_spec {a b : List Int} (ha : Lim a) (hb : Lim b) (sa : small a) (sb : small b) : ∃ out, F219 a b = some out ∧ Lim out ∧ out.length = max a.length b.length + 1 ∧ val out = val a + val b := by
 unfold F219
 unfold f219_c0
 unfold small at sa sb
 have e1 : wrapI .i64 (ofN a.length + 1) = (a.length : Int) + 1 := by rw [ofN_eq, wrapI_i64] <;> omega
 have e2 : wrapI .i64 (ofN b.length + 1) = (b.length : Int) + 1 := by rw [ofN_eq, wrapI_i64] <;> omega
 by_cases h : a.length < b.length
 ·rw [bif_true (by simpa [ofN_eq] using h), Option.bind_some]
  rw [gd_true (by show 0 ≤ wrapI .i64 (ofN b.length + 1); omega), gd_true (by show wrapI .i64 (ofN b.length + 1) ≤ _; omega)]
  obtain ⟨out, h1, h2, h3, h4⟩ := plus_aux hb ha sb (Nat.le_of_lt h) (2 + List.length a + List.length b + List.length (List.replicate (toN 0) (0 : Int))) (by omega)
  exact ⟨out, h1, h2, by omega, by omega⟩
 ·rw [bif_false (by simpa [ofN_eq] using h), Option.bind_some]
  rw [gd_true (by show 0 ≤ wrapI .i64 (ofN a.length + 1); omega), gd_true (by show wrapI .i64 (ofN a.length + 1) ≤ _; omega)]
  obtain ⟨out, h1, h2, h3, h4⟩ := plus_aux ha hb sa (Nat.le_of_not_lt h) (2 + List.length b + List.length a + List.length (List.replicate (toN 0) (0 : Int))) (by omega)
  exact ⟨out, h1, h2, by omega, h4⟩
theorem take_set_succ {l : List Int} {i : Nat} (h : i < l.length) (d : Int) : (List.set l i d).take (i + 1) = l.take i ++ [d] := by
 rw [List.take_add_one]
 rw [List.take_set_of_le (Nat.le_refl _)]
 simp [h]
theorem f220_c1_spec {b : List Int} (hb : Lim b) {i : Nat} {x : Int} (hx : x = 0 ∨ x = 1) : f220_c1 b (i : Int) x (decide ((i : Int) < ofN b.length)) = some (x + List.getD b i 0) := by
 unfold f220_c1
 have hd := hb.getD i
 by_cases h : i < b.length
 ·rw [bif_true (by simp [ofN_eq]; omega), gd_true (by omega), gd_true (by omega), toN_eq, Int.toNat_natCast, wrapI_u32 (by omega) (by omega)]
 ·have : List.getD b i 0 = 0 := by simp [List.getD, List.getElem?_eq_none (Nat.le_of_not_lt h)]
  rw [bif_false (by simp [ofN_eq]; omega), this]
  simp
theorem f220_c2_spec {x y : Int} (hx : 0 ≤ x ∧ x < 1000000000) : f220_c2 0 x (decide (x < y)) = some (if x < y then (1, x + 1000000000) else (0, x)) := by
 unfold f220_c2
 by_cases h : x < y
 ·rw [bif_true (by simpa using h), if_pos h, wrapI_u32 (by omega) (by omega)]
 ·rw [bif_false (by simpa using h), if_neg h]
theorem f220_l0_spec {a b : List Int} (ha : Lim a) (hb : Lim b) (hs : small a) : ∀ (m i n : Nat) (c : Int) (out : List Int), i + m = a.length → m < n → (c = 0 ∨ c = 1) → Lim (out.take i) → out.length = a.length →
 val (out.take i) = val (a.take i) - val (b.take i) + 1000000000 ^ i * c →
 ∃ c' out', f220_l0 b a (a.length : Int) n (c, (i : Int), out) = some out' ∧ (c' = 0 ∨ c' = 1) ∧ Lim out' ∧ out'.length = a.length ∧ val out' = val a - val (b.take a.length) + 1000000000 ^ a.length * c' := by
 unfold small at hs
 have step : ∀ n x, f220_l0 b a (a.length : Int) (n + 1) x = f220_l0_b b a (a.length : Int) (f220_l0 b a (a.length : Int) n) x := fun _ _ => rfl
 intro m
 induction m with
 | zero =>
   intro i n c out hi hn hc ho hlen hv
   cases n with
   | zero => omega
   | succ n =>
     rw [step]
     unfold f220_l0_b
     have : i = a.length := by omega
     subst this
     rw [List.take_length] at hv
     rw [← hlen, List.take_length] at ho
     have e : out.take a.length = out := by rw [← hlen, List.take_length]
     rw [e] at hv
     exact ⟨c, out, by simp, hc, ho, hlen, hv⟩
 | succ m ih =>
   intro i n c out hi hn hc ho hlen hv
   cases n with
   | zero => omega
   | succ n =>
     rw [step]
     unfold f220_l0_b
     have hda := ha.getD i
     have hdb := hb.getD i
     show ∃ c' out', (bif decide ((i : Int) < (a.length : Int)) then _ else _) = some out' ∧ _
     rw [bif_true (by simp; omega), gd_true (by omega), gd_true (by omega), f220_c1_spec hb hc, Option.bind_some, toN_eq, Int.toNat_natCast, f220_c2_spec hda, Option.bind_some]
     have e1 : wrapI .i64 ((i : Int) + 1) = ((i + 1 : Nat) : Int) := by rw [wrapI_i64] <;> omega
     have hva := val_take_succ' a i
     have hvb := val_take_succ' b i
     have key : ∀ (c1 x1 : Int), (c1 = 0 ∨ c1 = 1) → 0 ≤ x1 - (c + List.getD b i 0) ∧ x1 - (c + List.getD b i 0) < 1000000000 → x1 = List.getD a i 0 + 1000000000 * c1 →
      ∃ c' out', (gd (0 ≤ (i : Int)) (gd ((i : Int) < ((out.length : Nat) : Int)) (gd (i < out.length) (f220_l0 b a (a.length : Int) n (c1, wrapI .i64 ((i : Int) + 1), List.set out i (wrapI .u32 (x1 - (c + List.getD b i 0)))))))) = some out' ∧ (c' = 0 ∨ c' = 1) ∧ Lim out' ∧ out'.length = a.length ∧ val out' = val a - val (b.take a.length) + 1000000000 ^ a.length * c' := by
      intro c1 x1 hc1 hd hsum
      rw [gd_true (by omega), gd_true (by omega), gd_true (by omega), e1, wrapI_u32 (by omega) (by omega)]
      have ht := take_set_succ (l := out) (i := i) (by omega) (x1 - (c + List.getD b i 0))
      refine ih (i + 1) n c1 _ (by omega) (by omega) hc1 (by rw [ht]; exact ho.append (Lim.one hd)) (by simp [hlen]) ?_
      rw [ht, val_concat, hva, hvb, Int.pow_succ, hv]
      have hl : (out.take i).length = i := by rw [List.length_take]; omega
      rw [hl]
      subst hsum
      have h3 : 1000000000 ^ i * (List.getD a i 0 + 1000000000 * c1 - (c + List.getD b i 0)) = 1000000000 ^ i * List.getD a i 0 + 1000000000 ^ i * 1000000000 * c1 - (1000000000 ^ i * c + 1000000000 ^ i * List.getD b i 0) := by
       rw [Int.mul_sub, Int.mul_add, Int.mul_add, Int.mul_assoc]
      omega
     by_cases hlt : List.getD a i 0 < c + List.getD b i 0
     ·simp only [if_pos hlt]
      exact key 1 _ (.inr rfl) (by rcases hc with h | h <;> omega) (by omega)
     ·simp only [if_neg hlt]
      exact key 0 _ (.inl rfl) (by rcases hc with h | h <;> omega) (by omega)
theorem val_take_drop (l : List Int) (n : Nat) (h : n ≤ l.length) : val l = val (l.take n) + 1000000000 ^ n * val (l.drop n) := by
 have := val_append (l.take n) (l.drop n)
 rw [List.take_append_drop, List.length_take, Nat.min_eq_left h] at this
 exact this
theorem val_take_of_lt {b : List Int} (hb : Lim b) {n : Nat} (h : val b < 1000000000 ^ n) : val (b.take n) = val b := by
 by_cases hl : n ≤ b.length
 ·have h1 := val_take_drop b n hl
  have h2 := val_nonneg (hb.take n)
  have h3 := val_nonneg (hb.drop n)
  have h4 := pow_pos' n
  have h5 : val (b.drop n) = 0 := by
   rcases Int.lt_or_le 0 (val (b.drop n)) with h6 | h6
   ·have : (1000000000 : Int) ^ n * 1 ≤ 1000000000 ^ n * val (b.drop n) := Int.mul_le_mul_of_nonneg_left (by omega) (by omega)
    omega
   ·omega
  rw [h5] at h1
  simp at h1
  omega
 ·rw [List.take_of_length_le (by omega)]
theorem F220_spec {a b : List Int} (ha : Lim a) (hb : Lim b) (sa : small a) (hle : val b ≤ val a) : ∃ out, F220 a b = some out ∧ Lim out ∧ out.length = a.length ∧ val out = val a - val b := by
 have hlt := val_lt ha
 have hbt := val_take_of_lt hb (Int.lt_of_le_of_lt hle hlt)
 obtain ⟨c, out, h1, h2, h3, h4, h5⟩ := f220_l0_spec ha hb sa a.length 0 (2 + List.length b + List.length a + List.length (List.replicate (toN (ofN (List.length a))) (0 : Int))) 0 (List.replicate (toN (ofN (List.length a))) (0 : Int)) (by omega) (by omega) (.inl rfl) Lim.nil (by simp [toN_eq, ofN_eq]) (by simp [val])
 rw [hbt] at h5
 have hc : c = 0 := by
  rcases h2 with h | h
  ·exact h
  ·have := val_lt h3
   rw [h4] at this
   subst h
   omega
 subst hc
 unfold F220
 unfold small at sa
 rw [gd_true (by simp only [ofN_eq]; omega), gd_true (by omega), gd_true (by simp only [ofN_eq]; omega)]
 have h1' : f220_l0 b a (ofN a.length) (2 + List.length b + List.length a + List.length (List.replicate (toN (ofN (List.length a))) (0 : Int))) (0, 0, List.replicate (toN (ofN (List.length a))) (0 : Int)) = some out := h1
 rw [h1']
 exact ⟨out, rfl, h3, h4, by simpa using h5⟩
theorem val_set : ∀ (l : List Int) (i : Nat) (d : Int), i < l.length → val (List.set l i d) = val l + 1000000000 ^ i * (d - List.getD l i 0) := by
 intro l
 induction l with
 | nil => intro i d h; simp at h
 | cons x xs ih =>
   intro i d h
   cases i with
   | zero => simp [val, List.getD]; omega
   | succ i =>
     have h' : i < xs.length := by simpa using h
     have e : List.getD (x :: xs) (i + 1) 0 = List.getD xs i 0 := by simp [List.getD]
     rw [List.set_cons_succ, val, val, ih i d h', e, Int.pow_succ, Int.mul_add, Int.mul_comm (1000000000 ^ i) 1000000000, Int.mul_assoc]
     omega
theorem Lim.set {l : List Int} (h : Lim l) {i : Nat} {d : Int} (hd : 0 ≤ d ∧ d < 1000000000) : Lim (List.set l i d) := by
 intro x hx
 rcases List.mem_or_eq_of_mem_set hx with h1 | h1
 ·exact h x h1
 ·subst h1; exact hd
theorem getD_set_other {l : List Int} {i j : Nat} (h : i ≠ j) (d : Int) : List.getD (List.set l i d) j 0 = List.getD l j 0 := by
 simp [List.getD, List.getElem?_set_ne h]
theorem digit_mul {x y : Int} (hx : 0 ≤ x ∧ x < 1000000000) (hy : 0 ≤ y ∧ y < 1000000000) : 0 ≤ x * y ∧ x * y ≤ 999999998000000001 := by
 have h1 : 0 ≤ x * y := Int.mul_nonneg hx.1 hy.1
 have h2 : x * y ≤ 999999999 * 999999999 := Int.mul_le_mul (by omega) (by omega) hy.1 (by omega)
 omega
theorem f112_l1_spec {b : List Int} (hb : Lim b) (sb : small b) {i : Nat} {x : Int} (hx : 0 ≤ x ∧ x < 1000000000) (si : i ≤ 1000000000) : ∀ (m k n : Nat) (c : Int) (out : List Int), k + m = b.length → m < n → (0 ≤ c ∧ c < 1000000000) → Lim out → i + b.length ≤ out.length →
 ∃ c' out', f112_l1 b (i : Int) x (b.length : Int) n (c, (k : Int), out) = some (c', out') ∧ (0 ≤ c' ∧ c' < 1000000000) ∧ Lim out' ∧ out'.length = out.length ∧ (∀ j, i + b.length ≤ j → List.getD out' j 0 = List.getD out j 0) ∧
  val out' + 1000000000 ^ (i + b.length) * c' = val out + 1000000000 ^ (i + k) * c + 1000000000 ^ i * x * (val b - val (b.take k)) := by
 unfold small at sb
 have step : ∀ n s, f112_l1 b (i : Int) x (b.length : Int) (n + 1) s = f112_l1_b b (i : Int) x (b.length : Int) (f112_l1 b (i : Int) x (b.length : Int) n) s := fun _ _ => rfl
 intro m
 induction m with
 | zero =>
   intro k n c out hk hn hc ho hlen
   cases n with
   | zero => omega
   | succ n =>
     rw [step]
     unfold f112_l1_b
     have : k = b.length := by omega
     subst this
     refine ⟨c, out, by simp, hc, ho, rfl, fun _ _ => rfl, ?_⟩
     rw [List.take_length]
     simp
 | succ m ih =>
   intro k n c out hk hn hc ho hlen
   cases n with
   | zero => omega
   | succ n =>
     rw [step]
     unfold f112_l1_b
     have hy := hb.getD k
     have hz := ho.getD (i + k)
     have hm := digit_mul hx hy
     have e1 : wrapI .i64 ((i : Int) + (k : Int)) = ((i + k : Nat) : Int) := by rw [wrapI_i64] <;> omega
     have e2 : wrapI .i64 ((k : Int) + 1) = ((k + 1 : Nat) : Int) := by rw [wrapI_i64] <;> omega
     show ∃ c' out', (bif decide ((k : Int) < (b.length : Int)) then _ else _) = some (c', out') ∧ _
     rw [bif_true (by simp; omega)]
     simp only [e1, e2, toN_eq, Int.toNat_natCast]
     have g1 : (0 : Int) ≤ (k : Int) := by omega
     have g2 : (k : Int) < ((b.length : Nat) : Int) := by omega
     have g3 : (0 : Int) ≤ ((i + k : Nat) : Int) := by omega
     have g4 : ((i + k : Nat) : Int) < ((out.length : Nat) : Int) := by omega
     have g5 : i + k < out.length := by omega
     simp only [gd_true g1, gd_true g2, gd_true g3, gd_true g4, gd_true g5]
     rw [wrapI_u64 (n := List.getD out (i + k) 0) (by omega) (by omega), wrapI_u64 (n := x) (by omega) (by omega), wrapI_u64 (n := List.getD b k 0) (by omega) (by omega), wrapI_u64 (n := x * List.getD b k 0) (by omega) (by omega),
      wrapI_u64 (n := List.getD out (i + k) 0 + x * List.getD b k 0) (by omega) (by omega), wrapI_u64 (n := List.getD out (i + k) 0 + x * List.getD b k 0 + c) (by omega) (by omega)]
     generalize ht : List.getD out (i + k) 0 + x * List.getD b k 0 + c = t
     have ht0 : 0 ≤ t ∧ t < 1000000000000000000 := by omega
     have ed : Int.tdiv t 1000000000 = t / 1000000000 := Int.tdiv_eq_ediv_of_nonneg ht0.1
     have em : Int.tmod t 1000000000 = t % 1000000000 := Int.tmod_eq_emod_of_nonneg ht0.1
     rw [ed, em, wrapI_u64 (by omega) (by omega), wrapI_u32 (by omega) (by omega)]
     obtain ⟨c', out', h1, h2, h3, h4, h5, h6⟩ := ih (k + 1) n (t / 1000000000) (List.set out (i + k) (t % 1000000000)) (by omega) (by omega) (by omega) (ho.set (by omega)) (by rw [List.length_set]; exact hlen)
     refine ⟨c', out', h1, h2, h3, by rw [h4, List.length_set], fun j hj => by rw [h5 j hj, getD_set_other (by omega)], ?_⟩
     rw [h6, val_set _ _ _ g5, val_take_succ' b k]
     have hdm : 1000000000 * (t / 1000000000) + t % 1000000000 = t := Int.mul_ediv_add_emod t 1000000000
     have p1 : (1000000000 : Int) ^ (i + (k + 1)) = 1000000000 ^ (i + k) * 1000000000 := by rw [← Nat.add_assoc, Int.pow_succ]
     have p2 : (1000000000 : Int) ^ (i + k) = 1000000000 ^ i * 1000000000 ^ k := Int.pow_add _ _ _
     have q1 : 1000000000 ^ (i + k) * (t % 1000000000 - List.getD out (i + k) 0) + 1000000000 ^ (i + k) * 1000000000 * (t / 1000000000) = 1000000000 ^ (i + k) * (x * List.getD b k 0) + 1000000000 ^ (i + k) * c := by
      rw [Int.mul_assoc, ← Int.mul_add, ← Int.mul_add]
      congr 1
      omega
     have q2 : 1000000000 ^ i * x * (val b - (val (b.take k) + 1000000000 ^ k * List.getD b k 0)) = 1000000000 ^ i * x * (val b - val (b.take k)) - 1000000000 ^ (i + k) * (x * List.getD b k 0) := by
      rw [p2]
      rw [show val b - (val (b.take k) + 1000000000 ^ k * List.getD b k 0) = (val b - val (b.take k)) - 1000000000 ^ k * List.getD b k 0 by omega, Int.mul_sub]
      congr 1
      simp only [Int.mul_assoc, Int.mul_left_comm, Int.mul_comm]
     rw [q2, p1]
     omega
theorem f112_l0_spec {a b : List Int} (ha : Lim a) (hb : Lim b) (sa : small a) (sb : small b) : ∀ (m i n : Nat) (out : List Int), i + m = a.length → m < n → Lim out → out.length = a.length + b.length → (∀ j, i + b.length ≤ j → List.getD out j 0 = 0) → val out = val (a.take i) * val b →
 ∃ out', f112_l0 b a (a.length : Int) n ((i : Int), out) = some out' ∧ Lim out' ∧ out'.length = a.length + b.length ∧ val out' = val a * val b := by
 have sa' := sa
 have sb' := sb
 unfold small at sa sb
 have step : ∀ n s, f112_l0 b a (a.length : Int) (n + 1) s = f112_l0_b b a (a.length : Int) (f112_l0 b a (a.length : Int) n) s := fun _ _ => rfl
 intro m
 induction m with
 | zero =>
   intro i n out hi hn ho hlen hz hv
   cases n with
   | zero => omega
   | succ n =>
     rw [step]
     unfold f112_l0_b
     have : i = a.length := by omega
     subst this
     rw [List.take_length] at hv
     exact ⟨out, by simp, ho, hlen, hv⟩
 | succ m ih =>
   intro i n out hi hn ho hlen hz hv
   cases n with
   | zero => omega
   | succ n =>
     rw [step]
     unfold f112_l0_b
     have hx := ha.getD i
     show ∃ out', (bif decide ((i : Int) < (a.length : Int)) then _ else _) = some out' ∧ _
     rw [bif_true (by simp; omega), gd_true (by omega), gd_true (by omega), toN_eq, Int.toNat_natCast]
     obtain ⟨c', o', h1, h2, h3, h4, h5, h6⟩ := f112_l1_spec (i := i) hb sb' hx (by omega) b.length 0 (2 + List.length b + List.length a + List.length out) 0 out (by omega) (by omega) (by omega) ho (by omega)
     have h1' : f112_l1 b (i : Int) (List.getD a i 0) (ofN b.length) (2 + List.length b + List.length a + List.length out) ((0 : Int), (0 : Int), out) = some (c', o') := h1
     rw [h1', Option.bind_some]
     have e1 : wrapI .i64 ((i : Int) + ofN b.length) = ((i + b.length : Nat) : Int) := by rw [ofN_eq, wrapI_i64] <;> omega
     have e2 : wrapI .i64 ((i : Int) + 1) = ((i + 1 : Nat) : Int) := by rw [wrapI_i64] <;> omega
     simp only [e1, e2, toN_eq, Int.toNat_natCast]
     have g3 : (0 : Int) ≤ ((i + b.length : Nat) : Int) := by omega
     have g4 : ((i + b.length : Nat) : Int) < ((o'.length : Nat) : Int) := by omega
     have g5 : i + b.length < o'.length := by omega
     simp only [gd_true g3, gd_true g4, gd_true g5]
     rw [wrapI_u32 (by omega) (by omega)]
     refine ih (i + 1) n (List.set o' (i + b.length) c') (by omega) (by omega) (h3.set h2) (by rw [List.length_set]; omega) (fun j hj => ?_) ?_
     ·rw [getD_set_other (by omega), h5 j (by omega), hz j (by omega)]
     ·have hz0 : List.getD o' (i + b.length) 0 = 0 := by rw [h5 (i + b.length) (by omega), hz (i + b.length) (by omega)]
      rw [val_set _ _ _ g5, hz0, val_take_succ' a i]
      simp only [List.take_zero, val, Int.mul_zero, Int.add_zero, Int.sub_zero] at h6
      rw [Int.sub_zero, h6, hv, Int.add_mul]
theorem F112_spec {a b : List Int} (ha : Lim a) (hb : Lim b) (sa : small a) (sb : small b) (hs : a.length + b.length ≤ 1000000000) : ∃ out, F112 a b = some out ∧ Lim out ∧ out.length = a.length + b.length ∧ val out = val a * val b := by
 have e0 : wrapI .i64 (ofN a.length + ofN b.length) = ((a.length + b.length : Nat) : Int) := by unfold small at sa sb; rw [ofN_eq, ofN_eq, wrapI_i64] <;> omega
 unfold F112
 simp only [e0]
 have g1 : (0 : Int) ≤ ((a.length + b.length : Nat) : Int) := by omega
 have g2 : ((a.length + b.length : Nat) : Int) ≤ ((a.length + b.length : Nat) : Int) := by omega
 have g3 : ((a.length + b.length : Nat) : Int) ≤ 1073741824 := by omega
 simp only [gd_true g1, gd_true g2, gd_true g3, toN_eq, Int.toNat_natCast]
 have hz : ∀ j, List.getD (List.replicate (a.length + b.length) (0 : Int)) j 0 = 0 := by
  intro j
  simp [List.getD, List.getElem?_replicate]
  split <;> rfl
 have hv : val (List.replicate (a.length + b.length) (0 : Int)) = 0 := by
  generalize a.length + b.length = n
  induction n with
  | zero => rfl
  | succ n ih => rw [List.replicate_succ, val, ih]; rfl
 obtain ⟨out, h1, h2, h3, h4⟩ := f112_l0_spec ha hb sa sb a.length 0 (2 + List.length b + List.length a + List.length (List.replicate (a.length + b.length) (0 : Int))) (List.replicate (a.length + b.length) (0 : Int)) (by omega) (by omega)
  (by intro x hx; rw [List.mem_replicate] at hx; rw [hx.2]; omega) (by simp) (fun j _ => hz j) (by rw [hv]; simp [val])
 have h1' : f112_l0 b a (ofN a.length) (2 + List.length b + List.length a + List.length (List.replicate (a.length + b.length) (0 : Int))) ((0 : Int), List.replicate (a.length + b.length) (0 : Int)) = some out := h1
 rw [h1']
 exact ⟨out, rfl, h2, h3, h4⟩
theorem drop_getD {l : List Int} {k : Nat} (h : k < l.length) : l.drop k = List.getD l k 0 :: l.drop (k + 1) := by
 rw [getD_lt h]
 exact List.drop_eq_getElem_cons h
theorem drop_set_succ {l : List Int} {k : Nat} (h : k < l.length) (d : Int) : (List.set l k d).drop k = d :: l.drop (k + 1) := by
 rw [List.drop_eq_getElem_cons (by simpa using h)]
 simp [List.drop_set]
theorem f194_l0_spec {a : List Int} {w : Int} (ha : Lim a) (hw : 0 < w ∧ w < 4294967296) (hs : small a) : ∀ (k n : Nat) (r : Int) (out : List Int), k ≤ a.length → k < n → (0 ≤ r ∧ r < w) → out.length = a.length → Lim (out.drop k) → val (out.drop k) * w + r = val (a.drop k) →
 ∃ r' out', f194_l0 a w n (r, ((k : Int) - 1), out) = some (r', out') ∧ (0 ≤ r' ∧ r' < w) ∧ Lim out' ∧ out'.length = a.length ∧ val out' * w + r' = val a := by
 unfold small at hs
 have step : ∀ n s, f194_l0 a w (n + 1) s = f194_l0_b a w (f194_l0 a w n) s := fun _ _ => rfl
 intro k
 induction k with
 | zero =>
   intro n r out hk hn hr hlen ho hv
   cases n with
   | zero => omega
   | succ n =>
     rw [step]
     unfold f194_l0_b
     exact ⟨r, out, by simp, hr, by simpa using ho, hlen, by simpa using hv⟩
 | succ k ih =>
   intro n r out hk hn hr hlen ho hv
   cases n with
   | zero => omega
   | succ n =>
     rw [step]
     unfold f194_l0_b
     have hd := ha.getD k
     have e0 : ((k + 1 : Nat) : Int) - 1 = (k : Int) := by omega
     have e1 : wrapI .i64 ((k : Int) - 1) = (k : Int) - 1 := by rw [wrapI_i64] <;> omega
     have ew : wrapI .u64 w = w := wrapI_u64 (by omega) (by omega)
     simp only [e0, e1, ew, toN_eq, Int.toNat_natCast]
     rw [bif_true (by simp)]
     have g1 : (0 : Int) ≤ (k : Int) := by omega
     have g2 : (k : Int) < ((a.length : Nat) : Int) := by omega
     have g3 : w ≠ 0 := by omega
     have g4 : (k : Int) < ((out.length : Nat) : Int) := by omega
     have g5 : k < out.length := by omega
     simp only [gd_true g1, gd_true g2, gd_true g3, gd_true g4, gd_true g5]
     rw [wrapI_u64 (n := r * 1000000000) (by omega) (by omega), wrapI_u64 (n := List.getD a k 0) (by omega) (by omega), wrapI_u64 (n := r * 1000000000 + List.getD a k 0) (by omega) (by omega)]
     generalize ht : r * 1000000000 + List.getD a k 0 = t
     have ht0 : 0 ≤ t := by omega
     have htw : t < w * 1000000000 := by omega
     have ed : Int.tdiv t w = t / w := Int.tdiv_eq_ediv_of_nonneg ht0
     have em : Int.tmod t w = t % w := Int.tmod_eq_emod_of_nonneg ht0
     have hq0 : 0 ≤ t / w := Int.ediv_nonneg ht0 (by omega)
     have hq1 : t / w < 1000000000 := Int.ediv_lt_of_lt_mul hw.1 (by rw [Int.mul_comm]; exact htw)
     have hm0 : 0 ≤ t % w := Int.emod_nonneg t (by omega)
     have hm1 : t % w < w := Int.emod_lt_of_pos t hw.1
     have hdm : w * (t / w) + t % w = t := Int.mul_ediv_add_emod t w
     rw [ed, em, wrapI_u64 hq0 (by omega), wrapI_u32 hq0 (by omega)]
     refine ih n (t % w) _ (by omega) (by omega) ⟨hm0, hm1⟩ (by rw [List.length_set]; exact hlen) ?_ ?_
     ·rw [drop_set_succ g5]
      intro x hx
      rcases List.mem_cons.1 hx with rfl | hx
      ·exact ⟨hq0, hq1⟩
      ·exact ho x hx
     ·rw [drop_set_succ g5, drop_getD (by omega : k < a.length), val, val, ← hv, Int.add_mul, Int.mul_add]
      rw [Int.mul_comm (t / w) w, Int.mul_assoc]
      omega
theorem F194_spec {a : List Int} {w : Int} (ha : Lim a) (hw : 0 < w ∧ w < 4294967296) (hs : small a) : ∃ q r, F194 a w = some (q, [r]) ∧ Lim q ∧ q.length = a.length ∧ (0 ≤ r ∧ r < w) ∧ val q * w + r = val a := by
 have hs' := hs
 unfold small at hs
 have e0 : wrapI .i64 (ofN a.length - 1) = (a.length : Int) - 1 := by rw [ofN_eq, wrapI_i64] <;> omega
 obtain ⟨r, out, h1, h2, h3, h4, h5⟩ := f194_l0_spec ha hw hs' a.length (2 + List.length a + List.length (List.replicate (toN (ofN a.length)) (0 : Int))) 0 (List.replicate (toN (ofN a.length)) (0 : Int)) (Nat.le_refl _) (by omega) (by omega) (by simp [toN_eq, ofN_eq])
  (by rw [List.drop_of_length_le (by simp [toN_eq, ofN_eq])]; exact Lim.nil) (by rw [List.drop_of_length_le (by simp [toN_eq, ofN_eq]), List.drop_of_length_le (Nat.le_refl _)]; simp [val])
 unfold F194
 rw [gd_true (by simp only [ofN_eq]; omega), gd_true (by omega), gd_true (by simp only [ofN_eq]; omega), e0, h1]
 exact ⟨out, r, by rw [Option.bind_some, wrapI_u32 (by omega) (by omega)], h3, h4, h2, h5⟩
theorem f195s0_c1_spec {v : List Int} (hv : Lim v) {q c : Int} (hq : 0 ≤ q ∧ q ≤ 1000000000) (hc : 0 ≤ c ∧ c ≤ 1000000000) (i : Nat) :
 f195s0_c1 v q (i : Int) c (decide ((i : Int) < ofN v.length)) = some (c + List.getD v i 0 * q) ∧ 0 ≤ List.getD v i 0 * q ∧ List.getD v i 0 * q ≤ 999999999 * q := by
 have hd := hv.getD i
 have h1 : 0 ≤ List.getD v i 0 * q := Int.mul_nonneg hd.1 hq.1
 have h2 : List.getD v i 0 * q ≤ 999999999 * q := Int.mul_le_mul_of_nonneg_right (by omega) hq.1
 refine ⟨?_, h1, h2⟩
 unfold f195s0_c1
 by_cases h : i < v.length
 ·rw [bif_true (by simp [ofN_eq]; omega), gd_true (by omega), gd_true (by omega), toN_eq, Int.toNat_natCast, wrapI_u64 (n := List.getD v i 0) (by omega) (by omega), wrapI_u64 (n := List.getD v i 0 * q) (by omega) (by omega), wrapI_u64 (by omega) (by omega)]
 ·have : List.getD v i 0 = 0 := by simp [List.getD, List.getElem?_eq_none (Nat.le_of_not_lt h)]
  rw [bif_false (by simp [ofN_eq]; omega), this]
  simp
theorem f195s0_c2_spec {x y : Int} (hx : 0 ≤ x ∧ x < 1000000000) : f195s0_c2 0 x (decide (x < y)) = some (if x < y then (1, x + 1000000000) else (0, x)) := by
 unfold f195s0_c2
 by_cases h : x < y
 ·rw [bif_true (by simpa using h), if_pos h, wrapI_u64 (by omega) (by omega)]
 ·rw [bif_false (by simpa using h), if_neg h]
theorem f195s0_l0_spec {v : List Int} (hv : Lim v) {q : Int} (hq : 0 ≤ q ∧ q ≤ 1000000000) {off len : Nat} (hl : len ≤ 1000000000) : ∀ (m i n : Nat) (c r : Int) (u : List Int), i + m = len → m < n → (0 ≤ c ∧ c ≤ q) → (r = 0 ∨ r = 1) → Lim u → off + len ≤ u.length →
 ∃ c' r' u', f195s0_l0 off len v q (len : Int) n (c, r, (i : Int), u) = some (c', r', u') ∧ (0 ≤ c' ∧ c' ≤ q) ∧ (r' = 0 ∨ r' = 1) ∧ Lim u' ∧ u'.length = u.length ∧ (∀ j, j < off ∨ off + len ≤ j → List.getD u' j 0 = List.getD u j 0) ∧
  val u' - 1000000000 ^ (off + len) * (c' + r') = val u - 1000000000 ^ (off + i) * (c + r) - 1000000000 ^ off * (q * (val (v.take len) - val (v.take i))) := by
 have step : ∀ n s, f195s0_l0 off len v q (len : Int) (n + 1) s = f195s0_l0_b off len v q (len : Int) (f195s0_l0 off len v q (len : Int) n) s := fun _ _ => rfl
 intro m
 induction m with
 | zero =>
   intro i n c r u hi hn hc hr hu hlen
   cases n with
   | zero => omega
   | succ n =>
     rw [step]
     unfold f195s0_l0_b
     have : i = len := by omega
     subst this
     exact ⟨c, r, u, by simp, hc, hr, hu, rfl, fun _ _ => rfl, by simp⟩
 | succ m ih =>
   intro i n c r u hi hn hc hr hu hlen
   cases n with
   | zero => omega
   | succ n =>
     rw [step]
     unfold f195s0_l0_b
     have hx := hu.getD (off + i)
     obtain ⟨kc1, kc2, kc3⟩ := f195s0_c1_spec hv hq (c := c) (by omega) i
     have e1 : wrapI .i64 ((i : Int) + 1) = ((i + 1 : Nat) : Int) := by rw [wrapI_i64] <;> omega
     show ∃ c' r' u', (bif decide ((i : Int) < (len : Int)) then _ else _) = some (c', r', u') ∧ _
     rw [bif_true (by simp; omega), kc1, Option.bind_some]
     have g1 : (0 : Int) ≤ (i : Int) := by omega
     have g2 : (i : Int) < ((len : Nat) : Int) := by omega
     have g3 : off + i < u.length := by omega
     simp only [e1, toN_eq, Int.toNat_natCast, gd_true g1, gd_true g2, gd_true g3]
     generalize ht : c + List.getD v i 0 * q = t
     have ht0 : 0 ≤ t := by omega
     have ed : Int.tdiv t 1000000000 = t / 1000000000 := Int.tdiv_eq_ediv_of_nonneg ht0
     have em : Int.tmod t 1000000000 = t % 1000000000 := Int.tmod_eq_emod_of_nonneg ht0
     have e2 : wrapI .u64 (List.getD u (off + i) 0) = List.getD u (off + i) 0 := wrapI_u64 (by omega) (by omega)
     have e3 : wrapI .u64 (t % 1000000000 + r) = t % 1000000000 + r := wrapI_u64 (by rcases hr with h | h <;> omega) (by rcases hr with h | h <;> omega)
     have e4 : wrapI .u64 (t / 1000000000) = t / 1000000000 := wrapI_u64 (by omega) (by omega)
     simp only [ed, em, e2, e3, e4]
     rw [f195s0_c2_spec hx, Option.bind_some]
     have key : ∀ (r1 x1 : Int), (r1 = 0 ∨ r1 = 1) → x1 = List.getD u (off + i) 0 + 1000000000 * r1 → 0 ≤ x1 - (t % 1000000000 + r) ∧ x1 - (t % 1000000000 + r) < 1000000000 →
      ∃ c' r' u', f195s0_l0 off len v q (len : Int) n (t / 1000000000, r1, ((i + 1 : Nat) : Int), List.set u (off + i) (wrapI .u32 (wrapI .u64 (x1 - (t % 1000000000 + r))))) = some (c', r', u') ∧ (0 ≤ c' ∧ c' ≤ q) ∧ (r' = 0 ∨ r' = 1) ∧ Lim u' ∧ u'.length = u.length ∧ (∀ j, j < off ∨ off + len ≤ j → List.getD u' j 0 = List.getD u j 0) ∧
       val u' - 1000000000 ^ (off + len) * (c' + r') = val u - 1000000000 ^ (off + i) * (c + r) - 1000000000 ^ off * (q * (val (v.take len) - val (v.take i))) := by
      intro r1 x1 hr1 hx1 hd
      rw [wrapI_u64 (by omega) (by omega), wrapI_u32 (by omega) (by omega)]
      obtain ⟨c', r', u', h1, h2, h3, h4, h5, h6, h7⟩ := ih (i + 1) n (t / 1000000000) r1 (List.set u (off + i) (x1 - (t % 1000000000 + r))) (by omega) (by omega) (by omega) hr1 (hu.set hd) (by rw [List.length_set]; exact hlen)
      refine ⟨c', r', u', h1, h2, h3, h4, by rw [h5, List.length_set], fun j hj => by rw [h6 j hj, getD_set_other (by omega)], ?_⟩
      rw [h7, val_set _ _ _ g3, val_take_succ' v i]
      have hdm : 1000000000 * (t / 1000000000) + t % 1000000000 = t := Int.mul_ediv_add_emod t 1000000000
      have p1 : (1000000000 : Int) ^ (off + (i + 1)) = 1000000000 ^ (off + i) * 1000000000 := by rw [← Nat.add_assoc, Int.pow_succ]
      have p2 : (1000000000 : Int) ^ (off + i) = 1000000000 ^ off * 1000000000 ^ i := Int.pow_add _ _ _
      have q1 : 1000000000 ^ (off + i) * (x1 - (t % 1000000000 + r) - List.getD u (off + i) 0) - 1000000000 ^ (off + i) * 1000000000 * (t / 1000000000 + r1) = - (1000000000 ^ (off + i) * (c + r)) - 1000000000 ^ (off + i) * (List.getD v i 0 * q) := by
       rw [Int.mul_assoc, ← Int.mul_sub, ← Int.mul_neg, ← Int.mul_sub]
       congr 1
       omega
      have q2 : 1000000000 ^ off * (q * (val (v.take len) - (val (v.take i) + 1000000000 ^ i * List.getD v i 0))) = 1000000000 ^ off * (q * (val (v.take len) - val (v.take i))) - 1000000000 ^ (off + i) * (List.getD v i 0 * q) := by
       rw [p2, show val (v.take len) - (val (v.take i) + 1000000000 ^ i * List.getD v i 0) = (val (v.take len) - val (v.take i)) - 1000000000 ^ i * List.getD v i 0 by omega, Int.mul_sub, Int.mul_sub]
       congr 1
       simp only [Int.mul_assoc, Int.mul_left_comm, Int.mul_comm]
      rw [q2, p1]
      omega
     by_cases hlt : List.getD u (off + i) 0 < t % 1000000000 + r
     ·simp only [if_pos hlt]
      exact key 1 _ (.inr rfl) (by omega) (by rcases hr with h | h <;> omega)
     ·simp only [if_neg hlt]
      exact key 0 _ (.inl rfl) (by omega) (by rcases hr with h | h <;> omega)
theorem F195s0_spec {v : List Int} (hv : Lim v) {q : Int} (hq : 0 ≤ q ∧ q ≤ 1000000000) {off len : Nat} (hl : len ≤ 1000000000) {u : List Int} (hu : Lim u) (hlen : off + len ≤ u.length) :
 ∃ e u', F195s0 off len v q u = some (decide (0 < e), u') ∧ 0 ≤ e ∧ Lim u' ∧ u'.length = u.length ∧ (∀ j, j < off ∨ off + len ≤ j → List.getD u' j 0 = List.getD u j 0) ∧ val u' = val u - 1000000000 ^ off * (q * val (v.take len)) + 1000000000 ^ (off + len) * e := by
 obtain ⟨c, r, u', h1, h2, h3, h4, h5, h6, h7⟩ := f195s0_l0_spec hv hq hl len 0 (2 + List.length v + List.length u) 0 0 u (by omega) (by omega) (by omega) (.inl rfl) hu hlen
 have h1' : f195s0_l0 off len v q (ofN len) (2 + List.length v + List.length u) ((0 : Int), (0 : Int), (0 : Int), u) = some (c, r, u') := h1
 refine ⟨c + r, u', ?_, by rcases h3 with h | h <;> omega, h4, h5, h6, ?_⟩
 ·unfold F195s0
  rw [h1', Option.bind_some]
  rcases h3 with h | h
  ·subst h
   rw [bif_false (by simp)]
   simp
  ·subst h
   rw [bif_true (by simp)]
   have : (0 : Int) < c + 1 := by omega
   simp [this]
 ·simp only [List.take_zero, val, Int.sub_zero, Int.add_zero, Int.mul_zero] at h7
  omega
theorem f196s0_c1_spec {v : List Int} (hv : Lim v) (i : Nat) {x : Int} (hx : 0 ≤ x ∧ x ≤ 1000000000) : f196s0_c1 v (i : Int) x (decide ((i : Int) < ofN v.length)) = some (x + List.getD v i 0) := by
 unfold f196s0_c1
 have hd := hv.getD i
 by_cases h : i < v.length
 ·rw [bif_true (by simp [ofN_eq]; omega), gd_true (by omega), gd_true (by omega), toN_eq, Int.toNat_natCast, wrapI_u32 (by omega) (by omega)]
 ·have : List.getD v i 0 = 0 := by simp [List.getD, List.getElem?_eq_none (Nat.le_of_not_lt h)]
  rw [bif_false (by simp [ofN_eq]; omega), this]
  simp
theorem f196s0_c2_spec {x : Int} (hx : 0 ≤ x ∧ x < 2000000000) : f196s0_c2 0 x (decide ((1000000000 : Int) ≤ x)) = some (if 1000000000 ≤ x then (1, x - 1000000000) else (0, x)) := by
 unfold f196s0_c2
 by_cases h : 1000000000 ≤ x
 ·rw [bif_true (by simpa using h), if_pos h, wrapI_u32 (by omega) (by omega)]
 ·rw [bif_false (by simpa using h), if_neg h]
theorem f196s0_l0_spec {v : List Int} (hv : Lim v) {off len : Nat} (hl : len ≤ 1000000000) : ∀ (m i n : Nat) (c : Int) (u : List Int), i + m = len → m < n → (c = 0 ∨ c = 1) → Lim u → off + len ≤ u.length →
 ∃ c' u', f196s0_l0 off len v (len : Int) n (c, (i : Int), u) = some u' ∧ (c' = 0 ∨ c' = 1) ∧ Lim u' ∧ u'.length = u.length ∧ (∀ j, j < off ∨ off + len ≤ j → List.getD u' j 0 = List.getD u j 0) ∧
  val u' + 1000000000 ^ (off + len) * c' = val u + 1000000000 ^ (off + i) * c + 1000000000 ^ off * (val (v.take len) - val (v.take i)) := by
 have step : ∀ n s, f196s0_l0 off len v (len : Int) (n + 1) s = f196s0_l0_b off len v (len : Int) (f196s0_l0 off len v (len : Int) n) s := fun _ _ => rfl
 intro m
 induction m with
 | zero =>
   intro i n c u hi hn hc hu hlen
   cases n with
   | zero => omega
   | succ n =>
     rw [step]
     unfold f196s0_l0_b
     have : i = len := by omega
     subst this
     exact ⟨c, u, by simp, hc, hu, rfl, fun _ _ => rfl, by simp⟩
 | succ m ih =>
   intro i n c u hi hn hc hu hlen
   cases n with
   | zero => omega
   | succ n =>
     rw [step]
     unfold f196s0_l0_b
     have hx := hu.getD (off + i)
     have hd := hv.getD i
     have e1 : wrapI .i64 ((i : Int) + 1) = ((i + 1 : Nat) : Int) := by rw [wrapI_i64] <;> omega
     show ∃ c' u', (bif decide ((i : Int) < (len : Int)) then _ else _) = some u' ∧ _
     rw [bif_true (by simp; omega)]
     have g1 : (0 : Int) ≤ (i : Int) := by omega
     have g2 : (i : Int) < ((len : Nat) : Int) := by omega
     have g3 : off + i < u.length := by omega
     have hxc : 0 ≤ List.getD u (off + i) 0 + c ∧ List.getD u (off + i) 0 + c ≤ 1000000000 := by rcases hc with h | h <;> omega
     have e2 : wrapI .u32 (List.getD u (off + i) 0 + c) = List.getD u (off + i) 0 + c := wrapI_u32 (by omega) (by omega)
     simp only [e1, toN_eq, Int.toNat_natCast, gd_true g1, gd_true g2, gd_true g3, e2]
     rw [f196s0_c1_spec hv i hxc, Option.bind_some, f196s0_c2_spec (by omega), Option.bind_some]
     have key : ∀ (c1 d : Int), (c1 = 0 ∨ c1 = 1) → (0 ≤ d ∧ d < 1000000000) → d + 1000000000 * c1 = List.getD u (off + i) 0 + c + List.getD v i 0 →
      ∃ c' u', f196s0_l0 off len v (len : Int) n (c1, ((i + 1 : Nat) : Int), List.set u (off + i) d) = some u' ∧ (c' = 0 ∨ c' = 1) ∧ Lim u' ∧ u'.length = u.length ∧ (∀ j, j < off ∨ off + len ≤ j → List.getD u' j 0 = List.getD u j 0) ∧
       val u' + 1000000000 ^ (off + len) * c' = val u + 1000000000 ^ (off + i) * c + 1000000000 ^ off * (val (v.take len) - val (v.take i)) := by
      intro c1 d hc1 hdd hsum
      obtain ⟨c', u', h1, h3, h4, h5, h6, h7⟩ := ih (i + 1) n c1 (List.set u (off + i) d) (by omega) (by omega) hc1 (hu.set hdd) (by rw [List.length_set]; exact hlen)
      refine ⟨c', u', h1, h3, h4, by rw [h5, List.length_set], fun j hj => by rw [h6 j hj, getD_set_other (by omega)], ?_⟩
      rw [h7, val_set _ _ _ g3, val_take_succ' v i]
      have p1 : (1000000000 : Int) ^ (off + (i + 1)) = 1000000000 ^ (off + i) * 1000000000 := by rw [← Nat.add_assoc, Int.pow_succ]
      have p2 : (1000000000 : Int) ^ (off + i) = 1000000000 ^ off * 1000000000 ^ i := Int.pow_add _ _ _
      have q1 : 1000000000 ^ (off + i) * (d - List.getD u (off + i) 0) + 1000000000 ^ (off + i) * 1000000000 * c1 = 1000000000 ^ (off + i) * c + 1000000000 ^ (off + i) * List.getD v i 0 := by
       rw [Int.mul_assoc, ← Int.mul_add, ← Int.mul_add]
       congr 1
       omega
      have q2 : 1000000000 ^ off * (val (v.take len) - (val (v.take i) + 1000000000 ^ i * List.getD v i 0)) = 1000000000 ^ off * (val (v.take len) - val (v.take i)) - 1000000000 ^ (off + i) * List.getD v i 0 := by
       rw [p2, show val (v.take len) - (val (v.take i) + 1000000000 ^ i * List.getD v i 0) = (val (v.take len) - val (v.take i)) - 1000000000 ^ i * List.getD v i 0 by omega, Int.mul_sub, Int.mul_assoc]
      rw [q2, p1]
      omega
     by_cases hge : 1000000000 ≤ List.getD u (off + i) 0 + c + List.getD v i 0
     ·simp only [if_pos hge]
      exact key 1 _ (.inr rfl) (by omega) (by omega)
     ·simp only [if_neg hge]
      exact key 0 _ (.inl rfl) (by omega) (by omega)
theorem F196s0_spec {v : List Int} (hv : Lim v) {off len : Nat} (hl : len ≤ 1000000000) {u : List Int} (hu : Lim u) (hlen : off + len ≤ u.length) :
 ∃ c u', F196s0 off len v u = some u' ∧ (c = 0 ∨ c = 1) ∧ Lim u' ∧ u'.length = u.length ∧ (∀ j, j < off ∨ off + len ≤ j → List.getD u' j 0 = List.getD u j 0) ∧ val u' + 1000000000 ^ (off + len) * c = val u + 1000000000 ^ off * val (v.take len) := by
 obtain ⟨c, u', h1, h3, h4, h5, h6, h7⟩ := f196s0_l0_spec hv hl len 0 (2 + List.length v + List.length u) 0 u (by omega) (by omega) (.inl rfl) hu hlen
 have h1' : f196s0_l0 off len v (ofN len) (2 + List.length v + List.length u) ((0 : Int), (0 : Int), u) = some u' := h1
 refine ⟨c, u', ?_, h3, h4, h5, h6, ?_⟩
 ·unfold F196s0
  rw [h1']
  rfl
 ·simp only [List.take_zero, val, Int.sub_zero, Int.add_zero, Int.mul_zero] at h7
  exact h7
theorem F156_spec {s : Bool} {l : List Int} (h : Lim l) (hs : small l) : F156 (s, l) = some (if l.length ≤ 2 then (val l, true) else (0, false)) := by
 unfold F156
 match l, h, hs with
 | [], _, _ => rfl
 | [x], h, _ =>
   have hx := h x (by simp)
   have e : wrapI .u64 x = x := wrapI_u64 (by omega) (by omega)
   show some (wrapI .u64 x, true) = _
   rw [e]
   simp [val]
 | [x, y], h, _ =>
   have hx := h x (by simp)
   have hy := h y (by simp)
   show some (wrapI .u64 (wrapI .u64 (wrapI .u64 y * 1000000000) + wrapI .u64 x), true) = _
   rw [wrapI_u64 (n := y) (by omega) (by omega), wrapI_u64 (n := x) (by omega) (by omega), wrapI_u64 (n := y * 1000000000) (by omega) (by omega), wrapI_u64 (by omega) (by omega)]
   simp [val]
   omega
 | x :: y :: z :: r, _, hs =>
   have hl : (x :: y :: z :: r).length = r.length + 3 := by simp
   simp only [ofN_eq, hl]
   rw [bif_false (by simp; omega), bif_false (by simp; omega), bif_false (by simp; omega), if_neg (by omega)]
theorem f110_l1_spec : ∀ (n : Nat) (u v : Nat), v < n → f110_l1 n ((u : Int), (v : Int)) = some ((Nat.gcd v u : Nat) : Int) := by
 have step : ∀ n s, f110_l1 (n + 1) s = f110_l1_b (f110_l1 n) s := fun _ _ => rfl
 intro n
 induction n with
 | zero => intro u v h; omega
 | succ n ih =>
   intro u v h
   rw [step]
   unfold f110_l1_b
   by_cases hv : v = 0
   ·subst hv
    show (bif decide ((0 : Int) < ((0 : Nat) : Int)) then _ else some ((u : Nat) : Int)) = _
    rw [bif_false (by decide), Nat.gcd_zero_left]
   ·show (bif decide ((0 : Int) < (v : Int)) then _ else _) = _
    rw [bif_true (by simp; omega), gd_true (by omega)]
    have e : Int.tmod (u : Int) (v : Int) = ((u % v : Nat) : Int) := by
     rw [Int.tmod_eq_emod_of_nonneg (by omega)]
     rfl
    have hlt : u % v < v := Nat.mod_lt _ (by omega)
    rw [e, ih v (u % v) (by omega), Nat.gcd_rec v u]
theorem lim_unique : ∀ {a b : List Int}, Lim a → Lim b → a.length = b.length → val a = val b → a = b := by
 intro a
 induction a with
 | nil => intro b _ _ hl _; exact (List.length_eq_zero_iff.1 hl.symm).symm
 | cons x xs ih =>
   intro b ha hb hl hv
   cases b with
   | nil => simp at hl
   | cons y ys =>
     obtain ⟨hx, hxs⟩ := ha.cons
     obtain ⟨hy, hys⟩ := hb.cons
     rw [val, val] at hv
     have h1 : x = y := by omega
     have h2 : val xs = val ys := by omega
     rw [h1, ih hxs hys (by simpa using hl) h2]
theorem norm_unique {a b : List Int} (ha : Lim a) (hb : Lim b) (na : Norm a) (nb : Norm b) (h : val a = val b) : a = b := by
 refine lim_unique ha hb ?_ h
 rcases Nat.lt_trichotomy a.length b.length with h1 | h1 | h1
 ·have := norm_lt ha hb nb h1; omega
 ·exact h1
 ·have := norm_lt hb ha na h1; omega
def limbs : Nat → List Int
 | 0 => []
 | n + 1 => (((n + 1) % 1000000000 : Nat) : Int) :: limbs ((n + 1) / 1000000000)
decreasing_by exact Nat.div_lt_self (by omega) (by decide)
theorem limbs_spec (n : Nat) : Lim (limbs n) ∧ Norm (limbs n) ∧ val (limbs n) = (n : Int) := by
 induction n using Nat.strongRecOn with
 | _ n ih =>
   cases n with
   | zero =>
     rw [limbs]
     refine ⟨Lim.nil, ?_, rfl⟩
     intro m x h
     have := congrArg List.length h
     simp at this
   | succ n =>
     rw [limbs]
     have hlt : (n + 1) / 1000000000 < n + 1 := Nat.div_lt_self (by omega) (by decide)
     obtain ⟨h1, h2, h3⟩ := ih _ hlt
     refine ⟨?_, ?_, ?_⟩
     ·intro x hx
      rcases List.mem_cons.1 hx with rfl | hx
      ·omega
      ·exact h1 x hx
     ·intro m x h
      cases m with
      | nil =>
        have h4 : limbs ((n + 1) / 1000000000) = [] := by
         have := congrArg List.tail h
         simpa using this
        have h5 : (((n + 1) % 1000000000 : Nat) : Int) = x := by
         have := congrArg (fun l => l.headD 0) h
         simpa using this
        rw [h4] at h3
        simp only [val] at h3
        omega
      | cons y m =>
        rw [List.cons_append] at h
        exact h2 m x (List.cons.inj h).2
     ·rw [val, h3]
      omega
theorem trim_eq {l : List Int} (h : Lim l) : trimL l = limbs (val l).toNat := by
 obtain ⟨h1, h2, h3⟩ := limbs_spec (val l).toNat
 refine norm_unique (trimL_lim h) h1 (trimL_norm l) h2 ?_
 have := val_nonneg h
 rw [trimL_val, h3]
 omega
def enc (x : Int) : Bool × List Int := (decide (x < 0), limbs x.natAbs)
def sm (x : Int) : Prop := (limbs x.natAbs).length ≤ 100000000
theorem limbs_lim (n : Nat) : Lim (limbs n) := (limbs_spec n).1
theorem limbs_val (n : Nat) : val (limbs n) = (n : Int) := (limbs_spec n).2.2
theorem limbs_empty (n : Nat) : (limbs n).isEmpty = decide (n = 0) := by
 cases n with
 | zero => rw [limbs]; rfl
 | succ n => rw [limbs]; simp
theorem F106_enc {neg : Bool} {l : List Int} (h : Lim l) (hs : small l) : F106 neg l = some (enc (bif neg then -(val l) else val l)) := by
 have hv := val_nonneg h
 rw [F106_spec hs, trim_eq h, limbs_empty]
 unfold enc
 cases neg with
 | false =>
   simp only [cond_false, Bool.false_and]
   rw [show decide (val l < 0) = false by simp; omega, show (val l).natAbs = (val l).toNat by omega]
 | true =>
   simp only [cond_true, Bool.true_and]
   rw [show (-(val l)).natAbs = (val l).toNat by omega]
   congr 2
   by_cases h0 : val l = 0
   ·rw [h0]; rfl
   ·have : ¬ ((val l).toNat = 0) := by omega
    have h2 : -(val l) < 0 := by omega
    simp [this, h2]
    omega
theorem sm_small {x : Int} (h : sm x) : small (limbs x.natAbs) := by unfold sm at h; unfold small; omega
theorem F68_spec {x y : Int} (hx : sm x) (hy : sm y) : F68 (enc x) (enc y) = some (enc (x * y)) := by
 have hx' := hx
 have hy' := hy
 unfold sm at hx hy
 obtain ⟨out, h1, h2, h3, h4⟩ := F112_spec (limbs_lim x.natAbs) (limbs_lim y.natAbs) (sm_small hx') (sm_small hy') (by omega)
 unfold F68
 show (F112 (limbs x.natAbs) (limbs y.natAbs)).bind _ = _
 rw [h1, Option.bind_some, F106_enc h2 (by unfold small; omega), Option.bind_some, h4, limbs_val, limbs_val]
 congr 2
 show (bif !(decide (x < 0) == decide (y < 0)) then _ else _) = _
 rcases Int.lt_or_le x 0 with h5 | h5 <;> rcases Int.lt_or_le y 0 with h6 | h6
 ·have e1 : (x.natAbs : Int) = -x := by omega
  have e2 : (y.natAbs : Int) = -y := by omega
  rw [e1, e2, Int.neg_mul_neg]
  simp [h5, h6]
 ·have e1 : (x.natAbs : Int) = -x := by omega
  have e2 : (y.natAbs : Int) = y := by omega
  have h7 : ¬ (y < 0) := by omega
  rw [e1, e2, Int.neg_mul, Int.neg_neg]
  simp [h5, h7]
 ·have e1 : (x.natAbs : Int) = x := by omega
  have e2 : (y.natAbs : Int) = -y := by omega
  have h7 : ¬ (x < 0) := by omega
  rw [e1, e2, Int.mul_neg, Int.neg_neg]
  simp [h6, h7]
 ·have e1 : (x.natAbs : Int) = x := by omega
  have e2 : (y.natAbs : Int) = y := by omega
  have h7 : ¬ (x < 0) := by omega
  have h8 : ¬ (y < 0) := by omega
  rw [e1, e2]
  simp [h7, h8]
theorem F71_spec {x y : Int} (hx : sm x) (hy : sm y) : F71 (enc x) (enc y) = some (cmpI x y) := by
 have c1 := F114_spec (limbs_lim x.natAbs) (limbs_lim y.natAbs) (sm_small hx) (sm_small hy)
 have c2 := F114_spec (limbs_lim y.natAbs) (limbs_lim x.natAbs) (sm_small hy) (sm_small hx)
 rw [limbs_val, limbs_val] at c1 c2
 unfold F71
 show (bif !(decide (x < 0) == decide (y < 0)) then (bif decide (x < 0) then _ else _) else (bif decide (x < 0) then (F114 (limbs y.natAbs) (limbs x.natAbs)).bind _ else (F114 (limbs x.natAbs) (limbs y.natAbs)).bind _)) = _
 rw [c1, c2]
 unfold cmpI
 rcases Int.lt_or_le x 0 with h5 | h5 <;> rcases Int.lt_or_le y 0 with h6 | h6
 ·simp only [h5, h6, decide_true, beq_self_eq_true, Bool.not_true, cond_false, cond_true, Option.bind_some]
  congr 1
  by_cases h : x < y
  ·rw [if_pos (by omega), if_pos h]
  ·rw [if_neg (by omega), if_neg h]
   by_cases h' : y < x
   ·rw [if_pos (by omega), if_pos h']
   ·rw [if_neg (by omega), if_neg h']
 ·have h7 : ¬ (y < 0) := by omega
  simp [h5, h7]
  omega
 ·have h7 : ¬ (x < 0) := by omega
  simp [h6, h7]
  omega
 ·have h7 : ¬ (x < 0) := by omega
  have h8 : ¬ (y < 0) := by omega
  simp only [h7, h8, decide_false, beq_self_eq_true, Bool.not_true, cond_false, Option.bind_some]
  congr 1
  by_cases h : x < y
  ·rw [if_pos (by omega), if_pos h]
  ·rw [if_neg (by omega), if_neg h]
   by_cases h' : y < x
   ·rw [if_pos (by omega), if_pos h']
   ·rw [if_neg (by omega), if_neg h']
theorem minus_enc {neg : Bool} {m n : Nat} (sm' : small (limbs m)) (h : n ≤ m) : ((F220 (limbs m) (limbs n)).bind fun y9 => (F106 neg y9).bind fun y10 => some y10) = some (enc (bif neg then -((m : Int) - n) else (m : Int) - n)) := by
 obtain ⟨out, h1, h2, h3, h4⟩ := F220_spec (limbs_lim m) (limbs_lim n) sm' (by rw [limbs_val, limbs_val]; omega)
 rw [h1, Option.bind_some, F106_enc h2 (by unfold small at *; omega), Option.bind_some, h4, limbs_val, limbs_val]
theorem F198_spec {x y : Int} (hx : sm x) (hy : sm y) : F198 (enc x) (enc y) = some (enc (x + y)) := by
 have c1 := F114_spec (limbs_lim x.natAbs) (limbs_lim y.natAbs) (sm_small hx) (sm_small hy)
 rw [limbs_val, limbs_val] at c1
 obtain ⟨out, h1, h2, h3, h4⟩ := F219_spec (limbs_lim x.natAbs) (limbs_lim y.natAbs) (sm_small hx) (sm_small hy)
 rw [limbs_val, limbs_val] at h4
 have hs : small out := by unfold sm at hx hy; unfold small; omega
 unfold F198
 show (bif (decide (x < 0) == decide (y < 0)) then (F219 (limbs x.natAbs) (limbs y.natAbs)).bind _ else (F114 (limbs x.natAbs) (limbs y.natAbs)).bind _) = _
 rw [c1, h1]
 by_cases hsg : decide (x < 0) = decide (y < 0)
 ·rw [bif_true (by simpa using hsg), Option.bind_some]
  show ((F106 (decide (x < 0)) out).bind fun y2 => some y2) = _
  rw [F106_enc h2 hs, Option.bind_some, h4]
  congr 2
  rcases Int.lt_or_le x 0 with h5 | h5
  ·have h6 : y < 0 := by simpa [h5] using hsg.symm
   simp only [h5, decide_true, cond_true]
   omega
  ·have h5' : ¬ (x < 0) := by omega
   have h6 : ¬ (y < 0) := by simpa [h5'] using hsg.symm
   simp only [h5', decide_false, cond_false]
   omega
 ·rw [bif_false (by simpa using hsg), Option.bind_some]
  unfold f198_c0 cmpI
  by_cases hlt : (x.natAbs : Int) < y.natAbs
  ·rw [if_pos hlt]
   show ((F220 (limbs y.natAbs) (limbs x.natAbs)).bind fun y9 => (F106 (decide (y < 0)) y9).bind fun y10 => some y10) = _
   rw [minus_enc (sm_small hy) (by omega)]
   congr 2
   rcases Int.lt_or_le x 0 with h5 | h5 <;> rcases Int.lt_or_le y 0 with h6 | h6
   ·simp [h5, h6] at hsg
   ·have h6' : ¬ (y < 0) := by omega
    simp only [h6', decide_false, cond_false]; omega
   ·simp only [h6, decide_true, cond_true]; omega
   ·have h5' : ¬ (x < 0) := by omega
    have h6' : ¬ (y < 0) := by omega
    simp [h5', h6'] at hsg
  ·have e : decide ((if (x.natAbs : Int) < y.natAbs then (-1 : Int) else if (y.natAbs : Int) < x.natAbs then 1 else 0) < 0) = false := by
    rw [if_neg hlt]
    split <;> decide
   rw [e]
   show ((F220 (limbs x.natAbs) (limbs y.natAbs)).bind fun y9 => (F106 (decide (x < 0)) y9).bind fun y10 => some y10) = _
   rw [minus_enc (sm_small hx) (by omega)]
   congr 2
   rcases Int.lt_or_le x 0 with h5 | h5 <;> rcases Int.lt_or_le y 0 with h6 | h6
   ·simp [h5, h6] at hsg
   ·simp only [h5, decide_true, cond_true]; omega
   ·have h5' : ¬ (x < 0) := by omega
    simp only [h5', decide_false, cond_false]; omega
   ·have h5' : ¬ (x < 0) := by omega
    have h6' : ¬ (y < 0) := by omega
    simp [h5', h6'] at hsg
theorem limbs_pos (n : Nat) : decide ((0 : Int) < ofN (limbs n).length) = decide (n ≠ 0) := by
 have h := limbs_empty n
 rw [ofN_eq]
 cases hl : limbs n with
 | nil =>
   rw [hl] at h
   have : n = 0 := by simpa using h.symm
   simp [this]
 | cons a l =>
   rw [hl] at h
   have : ¬ n = 0 := by simpa using h.symm
   simp [this]
theorem F107_spec {u : Int} (h : 0 ≤ u ∧ u ≤ 18446744073709551615) : ∃ l, F107 u = some l ∧ Lim l ∧ l.length = 3 ∧ val l = u := by
 unfold F107
 have e1 : Int.tmod u 1000000000 = u % 1000000000 := Int.tmod_eq_emod_of_nonneg h.1
 have e2 : Int.tdiv u 1000000000 = u / 1000000000 := Int.tdiv_eq_ediv_of_nonneg h.1
 have e3 : wrapI .u64 (u / 1000000000) = u / 1000000000 := wrapI_u64 (by omega) (by omega)
 have e4 : Int.tmod (u / 1000000000) 1000000000 = u / 1000000000 % 1000000000 := Int.tmod_eq_emod_of_nonneg (by omega)
 have e5 : Int.tdiv (u / 1000000000) 1000000000 = u / 1000000000 / 1000000000 := Int.tdiv_eq_ediv_of_nonneg (by omega)
 rw [e1, e2, e3, e4, e5, wrapI_u64 (n := u / 1000000000 / 1000000000) (by omega) (by omega), wrapI_u32 (n := u % 1000000000) (by omega) (by omega), wrapI_u32 (n := u / 1000000000 % 1000000000) (by omega) (by omega), wrapI_u32 (n := u / 1000000000 / 1000000000) (by omega) (by omega)]
 refine ⟨_, rfl, ?_, rfl, ?_⟩
 ·intro x hx
  simp at hx
  rcases hx with rfl | rfl | rfl <;> omega
 ·simp only [val]
  omega
theorem F66_spec {n : Int} (h : -9223372036854775808 ≤ n ∧ n ≤ 9223372036854775807) : F66 n = some (enc n) := by
 unfold F66
 unfold f66_c0
 rcases Int.lt_or_le n 0 with h1 | h1
 ·have e : wrapI .u64 (0 - wrapI .u64 n) = -n := by
   simp only [wrapI, IntKind.wrap, IntKind.signed, IntKind.bits]
   simp
   omega
  rw [bif_true (by simpa using h1), Option.bind_some, e]
  obtain ⟨l, kc1, kc2, kc3, kc4⟩ := F107_spec (u := -n) (by omega)
  rw [kc1, Option.bind_some, F106_enc kc2 (by unfold small; omega), Option.bind_some, kc4]
  simp [h1]
 ·have h2 : ¬ (n < 0) := by omega
  rw [bif_false (by simpa using h1), Option.bind_some, wrapI_u64 h1 (by omega)]
  obtain ⟨l, kc1, kc2, kc3, kc4⟩ := F107_spec (u := n) (by omega)
  rw [kc1, Option.bind_some, F106_enc kc2 (by unfold small; omega), Option.bind_some, kc4]
  simp [h2]
theorem guess_le {p W T U V g q : Int} (hVpos : 0 < V) (hp : 0 < p) (hV : W * p ≤ V) (hU : U < (T + 1) * p) (hq : q * V ≤ U) (hg : 0 ≤ g) (h : T < g * W) : q < g := by
 have h1 : (T + 1) * p ≤ g * W * p := Int.mul_le_mul_of_nonneg_right (by omega) (by omega)
 have h2 : g * W * p ≤ g * V := by rw [Int.mul_assoc]; exact Int.mul_le_mul_of_nonneg_left hV hg
 have h3 : q * V < g * V := by omega
 exact Int.lt_of_mul_lt_mul_right h3 (by omega)
theorem guess_ge {p W T U V g : Int} (hp : 0 < p) (hV : V < (W + 1) * p) (hU : T * p ≤ U) (hb : g * p ≤ V) (h : g * W ≤ T) (hg : 0 ≤ g) : (g - 1) * V ≤ U := by
 have h1 : g * V ≤ g * ((W + 1) * p) := Int.mul_le_mul_of_nonneg_left (by omega) hg
 have h2 : g * ((W + 1) * p) = g * W * p + g * p := by rw [Int.add_mul, Int.mul_add, Int.one_mul, Int.mul_assoc]
 have h3 : g * W * p ≤ T * p := Int.mul_le_mul_of_nonneg_right h (by omega)
 rw [Int.sub_mul, Int.one_mul]
 omega
theorem f157_l1_spec {n k : Nat} {v u : List Int} (hn : 2 ≤ n) (hvl : n = v.length) (hk : k + n < u.length) (hsm : u.length ≤ 1000000000) (hv : Lim v) (hu : Lim u)
 {w1 w2 u2 : Int} (h1 : w1 = List.getD v (n - 1) 0) (h2 : w2 = List.getD v (n - 2) 0) (h3 : u2 = List.getD u (k + n - 2) 0) (hw1 : 500000000 ≤ w1) :
 ∀ (m f : Nat) (g r : Int), m < f → 0 ≤ g → g ≤ 1000000001 → 0 ≤ r → r < 1000000000 → (1000000000 - r) ≤ (m : Int) * w1 →
 ∃ g', f157_l1 (n : Int) v (k : Int) u f (g, r) = some g' ∧ 0 ≤ g' ∧ g' ≤ g ∧
  ((g' < 1000000000 ∧ g' * w2 ≤ (g * w1 + r - g' * w1) * 1000000000 + u2) ∨ (1000000000 ≤ g * w1 + r - g' * w1 ∧ g' < g)) ∧
  (∀ x, g' < x → x ≤ g → 1000000000 ≤ x ∨ (g * w1 + r - x * w1) * 1000000000 + u2 < x * w2) := by
 have d1 := hv.getD (n - 1)
 have d2 := hv.getD (n - 2)
 have d3 := hu.getD (k + n - 2)
 rw [← h1] at d1
 rw [← h2] at d2
 rw [← h3] at d3
 have step : ∀ f s, f157_l1 (n : Int) v (k : Int) u (f + 1) s = f157_l1_b (n : Int) v (k : Int) u (f157_l1 (n : Int) v (k : Int) u f) s := fun _ _ => rfl
 have i1 : wrapI .i64 ((n : Int) - 1) = ((n - 1 : Nat) : Int) := by rw [wrapI_i64] <;> omega
 have i2 : wrapI .i64 ((n : Int) - 2) = ((n - 2 : Nat) : Int) := by rw [wrapI_i64] <;> omega
 have i3 : wrapI .i64 (wrapI .i64 ((k : Int) + (n : Int)) - 2) = ((k + n - 2 : Nat) : Int) := by
  rw [wrapI_i64 (n := (k : Int) + (n : Int)) (by omega) (by omega), wrapI_i64] <;> omega
 intro m
 induction m with
 | zero => intro f g r _ _ _ _ _ h; simp at h; omega
 | succ m ih =>
   intro f g r hf hg0 hg1 hr0 hr1 hm
   cases f with
   | zero => omega
   | succ f =>
     have hm' : (1000000000 - (r + w1)) ≤ (m : Int) * w1 := by
      have : ((m + 1 : Nat) : Int) * w1 = (m : Int) * w1 + w1 := by rw [Int.natCast_add, Int.add_mul]; simp
      omega
     have g1 : (0 : Int) ≤ ((n - 1 : Nat) : Int) := by omega
     have g2 : ((n - 1 : Nat) : Int) < ((v.length : Nat) : Int) := by omega
     have g3 : (0 : Int) ≤ ((n - 2 : Nat) : Int) := by omega
     have g4 : ((n - 2 : Nat) : Int) < ((v.length : Nat) : Int) := by omega
     have g5 : (0 : Int) ≤ ((k + n - 2 : Nat) : Int) := by omega
     have g6 : ((k + n - 2 : Nat) : Int) < ((u.length : Nat) : Int) := by omega
     have g7 : k + n - 2 < u.length := by omega
     have ew1 : wrapI .u64 w1 = w1 := wrapI_u64 (by omega) (by omega)
     have ew2 : wrapI .u64 w2 = w2 := wrapI_u64 (by omega) (by omega)
     have eu2 : wrapI .u64 u2 = u2 := wrapI_u64 (by omega) (by omega)
     have er1 : wrapI .u64 (r + w1) = r + w1 := wrapI_u64 (by omega) (by omega)
     -- a step down
     have down : 0 < g → (1000000000 ≤ g ∨ r * 1000000000 + u2 < g * w2) →
      ∃ g', (bif decide ((1000000000 : Int) ≤ r + w1) then some (wrapI .u64 (g - 1)) else f157_l1 (n : Int) v (k : Int) u f (wrapI .u64 (g - 1), r + w1)) = some g' ∧ 0 ≤ g' ∧ g' ≤ g ∧
       ((g' < 1000000000 ∧ g' * w2 ≤ (g * w1 + r - g' * w1) * 1000000000 + u2) ∨ (1000000000 ≤ g * w1 + r - g' * w1 ∧ g' < g)) ∧
       (∀ x, g' < x → x ≤ g → 1000000000 ≤ x ∨ (g * w1 + r - x * w1) * 1000000000 + u2 < x * w2) := by
      intro hgp hwhy
      rw [wrapI_u64 (n := g - 1) (by omega) (by omega)]
      have top : ∀ x, g - 1 < x → x ≤ g → 1000000000 ≤ x ∨ (g * w1 + r - x * w1) * 1000000000 + u2 < x * w2 := by
       intro x hx1 hx2
       have : x = g := by omega
       subst this
       rw [show x * w1 + r - x * w1 = r by omega]
       exact hwhy
      have e : g * w1 + r - (g - 1) * w1 = r + w1 := by rw [Int.sub_mul]; omega
      by_cases hb : 1000000000 ≤ r + w1
      ·rw [bif_true (by simpa using hb)]
       exact ⟨g - 1, rfl, by omega, by omega, .inr ⟨by omega, by omega⟩, top⟩
      ·rw [bif_false (by simpa using hb)]
       obtain ⟨g', kc1, kc2, kc3, kc4, k5⟩ := ih f (g - 1) (r + w1) (by omega) (by omega) (by omega) (by omega) (by omega) hm'
       have e2 : (g - 1) * w1 + (r + w1) = g * w1 + r := by rw [Int.sub_mul]; omega
       rw [e2] at kc4
       refine ⟨g', kc1, kc2, by omega, ?_, ?_⟩
       ·rcases kc4 with h | ⟨h, h'⟩
        ·exact .inl h
        ·exact .inr ⟨h, by omega⟩
       ·intro x hx1 hx2
        by_cases hx : x ≤ g - 1
        ·have := k5 x hx1 hx
         rw [e2] at this
         exact this
        ·exact top x (by omega) hx2
     rw [step]
     unfold f157_l1_b
     simp only [i1, i2, i3, toN_eq, Int.toNat_natCast, gd_true g1, gd_true g2, gd_true g3, gd_true g4, gd_true g5, gd_true g6, gd_true g7, ← h1, ← h2, ← h3, ew1, ew2, eu2, er1]
     by_cases hge : 1000000000 ≤ g
     ·rw [bif_true (by simpa using hge)]
      exact down (by omega) (.inl hge)
     ·rw [bif_false (by simpa using hge)]
      have hgw : 0 ≤ g * w2 ∧ g * w2 ≤ 999999999 * 999999999 := ⟨Int.mul_nonneg hg0 d2.1, Int.mul_le_mul (by omega) (by omega) d2.1 (by omega)⟩
      rw [wrapI_u64 (n := r * 1000000000) (by omega) (by omega), wrapI_u64 (n := r * 1000000000 + u2) (by omega) (by omega), wrapI_u64 (n := g * w2) (by omega) (by omega)]
      by_cases hc : r * 1000000000 + u2 < g * w2
      ·rw [bif_true (by simpa using hc)]
       refine down ?_ (.inr hc)
       rcases Int.lt_or_le 0 g with h | h
       ·exact h
       ·have : g = 0 := by omega
        subst this
        simp at hc
        omega
      ·rw [bif_false (by simpa using hc)]
       refine ⟨g, rfl, hg0, Int.le_refl _, .inl ⟨by omega, ?_⟩, fun x h1 h2 => by omega⟩
       rw [show g * w1 + r - g * w1 = r by omega]
       omega
theorem getD_drop (l : List Int) (k i : Nat) : List.getD (l.drop k) i 0 = List.getD l (k + i) 0 := by
 simp [List.getD]
theorem val_ext : ∀ {a b : List Int}, a.length = b.length → (∀ j, j < a.length → List.getD a j 0 = List.getD b j 0) → a = b := by
 intro a b hl h
 apply List.ext_getElem hl
 intro i h1 h2
 have := h i h1
 rwa [getD_lt h1, getD_lt h2] at this
theorem val_top3 (b : List Int) (n : Nat) (hn : 2 ≤ n) : val (b.take (n + 1)) = val (b.take (n - 2)) + 1000000000 ^ (n - 2) * ((List.getD b n 0 * 1000000000 + List.getD b (n - 1) 0) * 1000000000 + List.getD b (n - 2) 0) := by
 obtain ⟨m, rfl⟩ : ∃ m, n = m + 2 := ⟨n - 2, by omega⟩
 have e1 : m + 2 - 2 = m := by omega
 have e2 : m + 2 - 1 = m + 1 := by omega
 rw [e1, e2, val_take_succ' b (m + 2), val_take_succ' b (m + 1), val_take_succ' b m]
 have p1 : (1000000000 : Int) ^ (m + 1) = 1000000000 ^ m * 1000000000 := Int.pow_succ _ _
 have p2 : (1000000000 : Int) ^ (m + 2) = 1000000000 ^ m * 1000000000 * 1000000000 := by rw [Int.pow_succ, p1]
 rw [p1, p2]
 generalize (1000000000 : Int) ^ m = p
 generalize List.getD b m 0 = x
 generalize List.getD b (m + 1) 0 = y
 generalize List.getD b (m + 2) 0 = z
 rw [Int.mul_add, Int.add_mul, Int.mul_add]
 have a1 : p * 1000000000 * y = p * (y * 1000000000) := by rw [Int.mul_assoc, Int.mul_comm 1000000000 y]
 have a2 : p * 1000000000 * 1000000000 * z = p * (z * 1000000000 * 1000000000) := by
  rw [Int.mul_assoc, Int.mul_assoc, Int.mul_assoc]
  congr 1
  omega
 rw [a1, a2]
 omega
theorem val_top2 (b : List Int) (n : Nat) (hn : 2 ≤ n) : val (b.take n) = val (b.take (n - 2)) + 1000000000 ^ (n - 2) * (List.getD b (n - 1) 0 * 1000000000 + List.getD b (n - 2) 0) := by
 obtain ⟨m, rfl⟩ : ∃ m, n = m + 2 := ⟨n - 2, by omega⟩
 have e1 : m + 2 - 2 = m := by omega
 have e2 : m + 2 - 1 = m + 1 := by omega
 rw [e1, e2, val_take_succ' b (m + 1), val_take_succ' b m]
 have p1 : (1000000000 : Int) ^ (m + 1) = 1000000000 ^ m * 1000000000 := Int.pow_succ _ _
 rw [p1]
 generalize (1000000000 : Int) ^ m = p
 generalize List.getD b m 0 = x
 generalize List.getD b (m + 1) 0 = y
 rw [Int.mul_add]
 have a1 : p * 1000000000 * y = p * (y * 1000000000) := by rw [Int.mul_assoc, Int.mul_comm 1000000000 y]
 rw [a1]
 omega
theorem digit_spec {n k : Nat} {v u : List Int} (hn : 2 ≤ n) (hvl : n = v.length) (hk : k + n < u.length) (hsm : u.length ≤ 1000000000) (hv : Lim v) (hu : Lim u)
 (hw1 : 500000000 ≤ List.getD v (n - 1) 0) (hlt : val (u.drop (k + 1)) < val v) (f : Nat) (hf : 2 < f) :
 ∃ g, f157_l1 (n : Int) v (k : Int) u f ((List.getD u (k + n) 0 * 1000000000 + List.getD u (k + n - 1) 0) / List.getD v (n - 1) 0, (List.getD u (k + n) 0 * 1000000000 + List.getD u (k + n - 1) 0) % List.getD v (n - 1) 0) = some g ∧
  0 ≤ g ∧ g ≤ 1000000000 ∧ ((g * val v ≤ val (u.drop k) ∧ val (u.drop k) < (g + 1) * val v ∧ g < 1000000000) ∨ (val (u.drop k) < g * val v ∧ (g - 1) * val v ≤ val (u.drop k) ∧ 1 ≤ g)) ∧ val (u.drop k) < 1000000000 ^ (n + 1) := by
 generalize hw1d : List.getD v (n - 1) 0 = w1 at *
 generalize hw2d : List.getD v (n - 2) 0 = w2
 have d1 := hv.getD (n - 1)
 have d2 := hv.getD (n - 2)
 rw [hw1d] at d1
 rw [hw2d] at d2
 have c0 := hu.getD (k + n)
 have c1 := hu.getD (k + n - 1)
 have c2 := hu.getD (k + n - 2)
 generalize hU : val (u.drop k) = U at *
 generalize hV : val v = V at *
 -- the divisor
 have hVt : V = val (v.take (n - 2)) + 1000000000 ^ (n - 2) * (w1 * 1000000000 + w2) := by
  rw [← hV]
  have := val_top2 v n hn
  rw [hw1d, hw2d, hvl, List.take_length] at this
  rw [← hvl] at this
  exact this
 have hvr := val_take_lt hv (k := n - 2) (by omega)
 have hp : (0 : Int) < 1000000000 ^ (n - 2) := pow_pos' _
 generalize hpd : (1000000000 : Int) ^ (n - 2) = p at *
 have hpn1 : (1000000000 : Int) ^ (n - 1) = p * 1000000000 := by
  rw [← hpd, ← Int.pow_succ]; congr 1; omega
 have hpn : (1000000000 : Int) ^ n = p * 1000000000 * 1000000000 := by
  rw [← hpn1, ← Int.pow_succ]; congr 1; omega
 have hpnn : (1000000000 : Int) ^ (n + 1) = p * 1000000000 * 1000000000 * 1000000000 := by rw [Int.pow_succ, hpn]
 -- the dividend
 have hUs : U = List.getD u k 0 + 1000000000 * val (u.drop (k + 1)) := by
  rw [← hU, drop_getD (by omega)]
  rfl
 have ck := hu.getD k
 have hVlt : V < 1000000000 ^ n := by rw [← hV, hvl]; exact val_lt hv
 have hn0 := val_nonneg (hu.drop (k + 1))
 have hUB : U < 1000000000 * V := by omega
 have hUlt : U < 1000000000 ^ (n + 1) := by rw [hpnn]; rw [hpn] at hVlt; omega
 have hUt : U = val ((u.drop k).take (n - 2)) + p * ((List.getD u (k + n) 0 * 1000000000 + List.getD u (k + n - 1) 0) * 1000000000 + List.getD u (k + n - 2) 0) := by
  have h1 := val_take_of_lt (hu.drop k) (n := n + 1) (by rw [hU]; exact hUlt)
  rw [hU] at h1
  rw [← h1, val_top3 _ n hn, getD_drop, getD_drop, getD_drop, hpd]
  rw [show k + (n - 1) = k + n - 1 by omega, show k + (n - 2) = k + n - 2 by omega]
 have hur := val_take_lt (hu.drop k) (k := n - 2) (by simp; omega)
 try rw [hpd] at hur
 generalize hu2 : List.getD u (k + n - 2) 0 = u2 at *
 generalize htop : List.getD u (k + n) 0 * 1000000000 + List.getD u (k + n - 1) 0 = top at *
 have htop0 : 0 ≤ top := by omega
 generalize hT : top * 1000000000 + u2 = T at *
 generalize hW : w1 * 1000000000 + w2 = W at *
 generalize val ((u.drop k).take (n - 2)) = ur at *
 generalize val (v.take (n - 2)) = vr at *
 have hVpos : 0 < V := by
  have : 0 < p * W := Int.mul_pos hp (by omega)
  omega
 have gV : W * p ≤ V := by rw [Int.mul_comm]; omega
 have gV2 : V < (W + 1) * p := by rw [Int.add_mul, Int.one_mul, Int.mul_comm W p]; omega
 have gU : T * p ≤ U := by rw [Int.mul_comm]; omega
 have gU2 : U < (T + 1) * p := by rw [Int.add_mul, Int.one_mul, Int.mul_comm T p]; omega
 -- the first guess
 have hdm := Int.mul_ediv_add_emod top w1
 have hr0 := Int.emod_nonneg top (show w1 ≠ 0 by omega)
 have hr1 := Int.emod_lt_of_pos top (show 0 < w1 by omega)
 have hg0 : 0 ≤ top / w1 := Int.ediv_nonneg htop0 (by omega)
 have htl : top < 1000000000 * w1 + 1000000000 := by
  -- T p <= U < B V < B (W+1) p
  have h1 : T * p < 1000000000 * (W + 1) * p := by
   have : 1000000000 * V < 1000000000 * ((W + 1) * p) := by omega
   rw [Int.mul_assoc]
   omega
  have h2 : T < 1000000000 * (W + 1) := Int.lt_of_mul_lt_mul_right h1 (by omega)
  omega
 have hg1 : top / w1 ≤ 1000000001 := by
  have : top < 1000000002 * w1 := by omega
  have := Int.ediv_lt_of_lt_mul (by omega) this
  omega
 generalize hgd : top / w1 = g0 at *
 generalize hrd : top % w1 = r0 at *
 have hdm' : g0 * w1 + r0 = top := by rw [Int.mul_comm]; exact hdm
 obtain ⟨g, h1, h2, h3, h4, h5⟩ := f157_l1_spec hn hvl hk hsm hv hu hw1d.symm hw2d.symm hu2.symm hw1 2 f g0 r0 hf hg0 hg1 hr0 (by omega) (by omega)
 rw [hdm'] at h4 h5
 have hgB : g ≤ 1000000000 := by
  rcases h4 with ⟨h, _⟩ | ⟨_, h⟩ <;> omega
 have hgW : g * W ≤ T := by
  rw [← hW, ← hT, Int.mul_add, ← Int.mul_assoc]
  rcases h4 with ⟨_, h⟩ | ⟨h, _⟩
  ·rw [Int.sub_mul] at h; omega
  ·have a1 : g * w2 ≤ 1000000000 * w2 := Int.mul_le_mul_of_nonneg_right hgB d2.1
   omega
 have hge : (g - 1) * V ≤ U := guess_ge hp gV2 gU (by
  have : g * p ≤ 1000000000 * p := Int.mul_le_mul_of_nonneg_right hgB (by omega)
  have h6 : p * (500000000 * 1000000000) ≤ p * W := Int.mul_le_mul_of_nonneg_left (by omega) (by omega)
  omega) hgW h2
 have hup : U < (g + 1) * V := by
  rcases Int.lt_or_le U ((g + 1) * V) with h | h
  ·exact h
  exfalso
  have hx : g + 1 < 1000000000 := by
   have : (g + 1) * V < 1000000000 * V := by omega
   exact Int.lt_of_mul_lt_mul_right this (by omega)
  have hlt : T < (g + 1) * W := by
   by_cases hc : g + 1 ≤ g0
   ·rcases h5 (g + 1) (by omega) hc with h6 | h6
    ·omega
    ·rw [← hW, ← hT, Int.mul_add, ← Int.mul_assoc]
     rw [Int.sub_mul] at h6
     omega
   ·have hg : g = g0 := by omega
    subst hg
    have h7 : top < (g + 1) * w1 := by rw [Int.add_mul]; omega
    have h8 : 0 ≤ (g + 1) * w2 := Int.mul_nonneg (by omega) d2.1
    rw [← hW, ← hT, Int.mul_add, ← Int.mul_assoc]
    omega
  have := guess_le hVpos hp gV gU2 h (by omega) hlt
  omega
 refine ⟨g, h1, h2, hgB, ?_, hUlt⟩
 rcases Int.lt_or_le U (g * V) with h | h
 ·refine .inr ⟨h, hge, ?_⟩
  rcases Int.lt_or_le 0 g with h9 | h9
  ·omega
  ·have : g = 0 := by omega
   subst this
   have := val_nonneg (hu.drop k)
   omega
 ·refine .inl ⟨h, hup, ?_⟩
  have : g * V < 1000000000 * V := by omega
  exact Int.lt_of_mul_lt_mul_right this (by omega)
theorem take_off {n k : Nat} {v u : List Int} (hn : 2 ≤ n) (hvl : n = v.length) (hk : k + n < u.length) (hsm : u.length ≤ 1000000000) (hv : Lim v) (hu : Lim u)
 {g : Int} (h0 : 0 ≤ g) (hgB : g ≤ 1000000000) (hVp : 0 < val v) (hUlt : val (u.drop k) < 1000000000 ^ (n + 1))
 (hg : (g * val v ≤ val (u.drop k) ∧ val (u.drop k) < (g + 1) * val v ∧ g < 1000000000) ∨ (val (u.drop k) < g * val v ∧ (g - 1) * val v ≤ val (u.drop k) ∧ 1 ≤ g)) :
 ∃ q u', ((F195s0 k (n + 1) v g u).bind fun y44 => f157_c2 (n : Int) v (k : Int) g y44.1 y44.2) = some (q, u') ∧ 0 ≤ q ∧ q < 1000000000 ∧ Lim u' ∧ u'.length = u.length ∧ u'.take k = u.take k ∧
  val (u'.drop k) = val (u.drop k) - q * val v ∧ val (u'.drop k) < val v ∧ 0 ≤ val (u'.drop k) := by
 have hsame : ∀ w : List Int, w.length = u.length → (∀ j, j < k ∨ k + (n + 1) ≤ j → List.getD w j 0 = List.getD u j 0) → w.take k = u.take k := by
  intro w hl hw
  refine val_ext (by simp [hl]) fun j hj => ?_
  have hjk : j < k := by simp at hj; omega
  have e : ∀ l : List Int, List.getD (l.take k) j 0 = List.getD l j 0 := by intro l; simp [List.getD, hjk]
  rw [e, e, hw j (.inl hjk)]
 have hhigh : ∀ w : List Int, Lim w → w.length = u.length → (∀ j, j < k ∨ k + (n + 1) ≤ j → List.getD w j 0 = List.getD u j 0) → 0 ≤ val (w.drop k) ∧ val (w.drop k) < 1000000000 ^ (n + 1) := by
  intro w hw hl hj
  refine ⟨val_nonneg (hw.drop k), ?_⟩
  have e1 : val (w.drop k) = val ((w.drop k).take (n + 1)) + 1000000000 ^ (n + 1) * val ((w.drop k).drop (n + 1)) := val_take_drop _ _ (by simp; omega)
  have e2 : val (u.drop k) = val ((u.drop k).take (n + 1)) + 1000000000 ^ (n + 1) * val ((u.drop k).drop (n + 1)) := val_take_drop _ _ (by simp; omega)
  have e3 : (w.drop k).drop (n + 1) = (u.drop k).drop (n + 1) := by
   refine val_ext (by simp [hl]) fun j _ => ?_
   rw [getD_drop, getD_drop, getD_drop, getD_drop, hj _ (.inr (by omega))]
  have e4 := val_take_lt (hw.drop k) (k := n + 1) (by simp; omega)
  have e5 := val_take_lt (hu.drop k) (k := n + 1) (by simp; omega)
  have e6 := val_nonneg ((hu.drop k).drop (n + 1))
  have e7 : val ((u.drop k).drop (n + 1)) = 0 := by
   rcases Int.lt_or_le 0 (val ((u.drop k).drop (n + 1))) with h | h
   ·exfalso
    have : (1000000000 : Int) ^ (n + 1) * 1 ≤ 1000000000 ^ (n + 1) * val ((u.drop k).drop (n + 1)) := Int.mul_le_mul_of_nonneg_left (by omega) (by have := pow_pos' (n + 1); omega)
    omega
   ·omega
  rw [e1, e3, e7]
  omega
 have hP := pow_pos' (n + 1)
 have hpk := pow_pos' k
 have hVlt : val v < 1000000000 ^ (n + 1) := by
  have h1 := val_lt hv
  rw [← hvl] at h1
  have h2 : (1000000000 : Int) ^ (n + 1) = 1000000000 ^ n * 1000000000 := Int.pow_succ _ _
  have := pow_pos' n
  omega
 have evt : v.take (n + 1) = v := List.take_of_length_le (by omega)
 have epow : (1000000000 : Int) ^ (k + (n + 1)) = 1000000000 ^ k * 1000000000 ^ (n + 1) := Int.pow_add _ _ _
 obtain ⟨e, u1, a1, a2, a3, a4, a5, a6⟩ := F195s0_spec hv (q := g) ⟨h0, hgB⟩ (off := k) (len := n + 1) (by omega) hu (by omega)
 rw [evt, epow] at a6
 have b1 := hsame u1 a4 a5
 obtain ⟨b2, b3⟩ := hhigh u1 a3 a4 a5
 have vu : val u = val (u.take k) + 1000000000 ^ k * val (u.drop k) := val_take_drop _ _ (by omega)
 have vu1 : val u1 = val (u.take k) + 1000000000 ^ k * val (u1.drop k) := by rw [val_take_drop u1 k (by omega), b1]
 have hU1 : val (u1.drop k) = val (u.drop k) - g * val v + 1000000000 ^ (n + 1) * e := by
  have : 1000000000 ^ k * val (u1.drop k) = 1000000000 ^ k * (val (u.drop k) - g * val v + 1000000000 ^ (n + 1) * e) := by
   rw [Int.mul_add, Int.mul_sub, ← Int.mul_assoc (1000000000 ^ k) (1000000000 ^ (n + 1)) e]
   omega
  exact Int.eq_of_mul_eq_mul_left (by omega) this
 rw [a1, Option.bind_some]
 rcases hg with ⟨c1, c2, c3⟩ | ⟨c1, c2, c3⟩
 ·-- the guess is the digit
  have he : e = 0 := by
   rcases Int.lt_or_le 0 e with h | h
   ·exfalso
    have : (1000000000 : Int) ^ (n + 1) * 1 ≤ 1000000000 ^ (n + 1) * e := Int.mul_le_mul_of_nonneg_left (by omega) (by omega)
    omega
   ·omega
  subst he
  rw [Int.mul_zero, Int.add_zero] at hU1
  refine ⟨g, u1, rfl, h0, c3, a3, a4, b1, hU1, ?_, b2⟩
  rw [hU1]
  rw [Int.add_mul, Int.one_mul] at c2
  omega
 ·have he : e = 1 := by
   rcases Int.lt_or_le 0 e with h | h
   ·rcases Int.lt_or_le 1 e with h' | h'
    ·exfalso
     have : (1000000000 : Int) ^ (n + 1) * 2 ≤ 1000000000 ^ (n + 1) * e := Int.mul_le_mul_of_nonneg_left (by omega) (by omega)
     rw [Int.sub_mul, Int.one_mul] at c2
     omega
    ·omega
   ·have : e = 0 := by omega
    subst this
    rw [Int.mul_zero, Int.add_zero] at hU1
    omega
  subst he
  rw [Int.mul_one] at hU1
  obtain ⟨c, u2, d1, d2, d3, d4, d5, d6⟩ := F196s0_spec hv (off := k) (len := n + 1) (by omega) a3 (by omega)
  rw [evt, epow] at d6
  have d5' : ∀ j, j < k ∨ k + (n + 1) ≤ j → List.getD u2 j 0 = List.getD u j 0 := fun j hj => (d5 j hj).trans (a5 j hj)
  have f1 := hsame u2 (d4.trans a4) d5'
  obtain ⟨f2, f3⟩ := hhigh u2 d3 (d4.trans a4) d5'
  have vu2 : val u2 = val (u.take k) + 1000000000 ^ k * val (u2.drop k) := by rw [val_take_drop u2 k (by omega), f1]
  have hU2 : val (u2.drop k) + 1000000000 ^ (n + 1) * c = val (u1.drop k) + val v := by
   have : 1000000000 ^ k * (val (u2.drop k) + 1000000000 ^ (n + 1) * c) = 1000000000 ^ k * (val (u1.drop k) + val v) := by
    rw [Int.mul_add, Int.mul_add, ← Int.mul_assoc (1000000000 ^ k) (1000000000 ^ (n + 1)) c]
    omega
   exact Int.eq_of_mul_eq_mul_left (by omega) this
  rw [Int.sub_mul, Int.one_mul] at c2
  have hc : c = 1 := by
   rcases d2 with h | h
   ·subst h; rw [Int.mul_zero] at hU2; omega
   ·exact h
  subst hc
  rw [Int.mul_one] at hU2
  refine ⟨g - 1, u2, ?_, by omega, by omega, d3, d4.trans a4, f1, ?_, ?_, f2⟩
  ·unfold f157_c2
   rw [decide_eq_true (show (0 : Int) < 1 by omega)]
   simp only [cond_true]
   have w1 : wrapI .i64 ((k : Int) + (n : Int)) = ((k + n : Nat) : Int) := by rw [wrapI_i64] <;> omega
   have w2 : wrapI .i64 (((k + n : Nat) : Int) + 1) = ((k + n + 1 : Nat) : Int) := by rw [wrapI_i64] <;> omega
   rw [w1, w2]
   have t1 : Int.toNat (k : Int) = k := rfl
   have t2 : Int.toNat ((k + n + 1 : Nat) : Int) = k + n + 1 := rfl
   rw [t1, t2, show k + n + 1 - k = n + 1 by omega, gd_true (by omega), gd_true (by omega), gd_true (by omega), gd_true (by omega), d1, Option.bind_some, wrapI_u64 (n := g - 1) (by omega) (by omega)]
  ·rw [Int.sub_mul, Int.one_mul]; omega
  ·omega
theorem f157_l0_spec {n : Nat} {v : List Int} (hn : 2 ≤ n) (hvl : n = v.length) (hv : Lim v) (hw1 : 500000000 ≤ List.getD v (n - 1) 0) (hVp : 0 < val v) :
 ∀ (t f : Nat) (u q : List Int), t < f → Lim u → Lim q → t + n ≤ u.length → u.length ≤ 100000000 → t ≤ q.length → q.length ≤ 100000000 → val (u.drop t) < val v →
 ∃ u' q', f157_l0 (n : Int) v f ((t : Int) - 1, u, q) = some (u', q') ∧ Lim u' ∧ Lim q' ∧ u'.length = u.length ∧ q'.length = q.length ∧ val u' < val v ∧ val u' + val v * val q' = val u + val v * (1000000000 ^ t * val (q.drop t)) := by
 intro t
 induction t with
 | zero =>
   intro f u q hf hu hq h1 h2 h3 h4 h5
   obtain ⟨f, rfl⟩ : ∃ g, f = g + 1 := ⟨f - 1, by omega⟩
   refine ⟨u, q, rfl, hu, hq, rfl, rfl, by simpa using h5, by simp⟩
 | succ k ih =>
   intro f u q hf hu hq h1 h2 h3 h4 h5
   obtain ⟨f, rfl⟩ : ∃ g, f = g + 1 := ⟨f - 1, by omega⟩
   have hk : k + n < u.length := by omega
   obtain ⟨g, a1, a2, a3, a4, a5⟩ := digit_spec hn hvl hk (by omega) hv hu hw1 h5 (2 + v.length + u.length + q.length) (by omega)
   obtain ⟨qd, u1, b1, b2, b3, b4, b5, b6, b7, b8, b9⟩ := take_off hn hvl hk (by omega) hv hu a2 a3 hVp a5 a4
   have hq1 : Lim (List.set q k qd) := hq.set ⟨b2, b3⟩
   obtain ⟨u', q', c1, c2, c3, c4, c5, c6, c7⟩ := ih f u1 (List.set q k qd) (by omega) b4 hq1 (by omega) (by omega) (by simp; omega) (by simpa using h4) b8
   refine ⟨u', q', ?_, c2, c3, by omega, by simpa using c5, c6, ?_⟩
   ·have step : f157_l0 (n : Int) v (f + 1) ((((k + 1 : Nat) : Int)) - 1, u, q) = f157_l0_b (n : Int) v (f157_l0 (n : Int) v f) ((((k + 1 : Nat) : Int)) - 1, u, q) := rfl
    rw [step, show (((k + 1 : Nat) : Int)) - 1 = (k : Int) by omega]
    unfold f157_l0_b
    show (bif decide ((0 : Int) ≤ (k : Int)) then _ else _) = _
    rw [decide_eq_true (show (0 : Int) ≤ (k : Int) by omega)]
    simp only [cond_true]
    have w1 : wrapI .i64 ((k : Int) + (n : Int)) = ((k + n : Nat) : Int) := by rw [wrapI_i64] <;> omega
    have w2 : wrapI .i64 (((k + n : Nat) : Int) + 1) = ((k + n + 1 : Nat) : Int) := by rw [wrapI_i64] <;> omega
    have w3 : wrapI .i64 (((k + n : Nat) : Int) - 1) = ((k + n - 1 : Nat) : Int) := by rw [wrapI_i64] <;> omega
    have w4 : wrapI .i64 ((n : Int) - 1) = ((n - 1 : Nat) : Int) := by rw [wrapI_i64] <;> omega
    have w5 : wrapI .i64 ((k : Int) - 1) = (k : Int) - 1 := by rw [wrapI_i64] <;> omega
    have t1 : Int.toNat (k : Int) = k := rfl
    have t2 : Int.toNat ((k + n + 1 : Nat) : Int) = k + n + 1 := rfl
    have t3 : toN ((k + n : Nat) : Int) = k + n := rfl
    have t4 : toN ((k + n - 1 : Nat) : Int) = k + n - 1 := rfl
    have t5 : toN ((n - 1 : Nat) : Int) = n - 1 := rfl
    have t6 : toN (k : Int) = k := rfl
    have m1 := hu.getD (k + n)
    have m2 := hu.getD (k + n - 1)
    have m3 := hv.getD (n - 1)
    have x1 : wrapI .u64 (List.getD u (k + n) 0) = List.getD u (k + n) 0 := wrapI_u64 (by omega) (by omega)
    have x2 : wrapI .u64 (List.getD u (k + n - 1) 0) = List.getD u (k + n - 1) 0 := wrapI_u64 (by omega) (by omega)
    have x3 : wrapI .u64 (List.getD v (n - 1) 0) = List.getD v (n - 1) 0 := wrapI_u64 (by omega) (by omega)
    have x4 : wrapI .u64 (List.getD u (k + n) 0 * 1000000000) = List.getD u (k + n) 0 * 1000000000 := wrapI_u64 (by omega) (by omega)
    have x5 : wrapI .u64 (List.getD u (k + n) 0 * 1000000000 + List.getD u (k + n - 1) 0) = List.getD u (k + n) 0 * 1000000000 + List.getD u (k + n - 1) 0 := wrapI_u64 (by omega) (by omega)
    have g1 : (0 : Int) ≤ ((k + n : Nat) : Int) := by omega
    have g2 : ((k + n : Nat) : Int) < ((u.length : Nat) : Int) := by omega
    have g4 : (0 : Int) ≤ ((k + n - 1 : Nat) : Int) := by omega
    have g5 : ((k + n - 1 : Nat) : Int) < ((u.length : Nat) : Int) := by omega
    have g6 : k + n - 1 < u.length := by omega
    have g7 : (0 : Int) ≤ ((n - 1 : Nat) : Int) := by omega
    have g8 : ((n - 1 : Nat) : Int) < ((v.length : Nat) : Int) := by omega
    have g9 : List.getD v (n - 1) 0 ≠ 0 := by omega
    simp only [w1, w2, w3, w4, w5, t1, t2, t3, t4, t5, t6, x1, x2, x3, x4, x5, gd_true g1, gd_true g2, gd_true hk, gd_true g4, gd_true g5, gd_true g6, gd_true g7, gd_true g8, gd_true g9]
    generalize htop : List.getD u (k + n) 0 * 1000000000 + List.getD u (k + n - 1) 0 = top at *
    have htop0 : 0 ≤ top := by omega
    have e1 : Int.tdiv top (List.getD v (n - 1) 0) = top / List.getD v (n - 1) 0 := Int.tdiv_eq_ediv_of_nonneg htop0
    have e2 : Int.tmod top (List.getD v (n - 1) 0) = top % List.getD v (n - 1) 0 := Int.tmod_eq_emod_of_nonneg htop0
    have e3 : 0 ≤ top / List.getD v (n - 1) 0 := Int.ediv_nonneg htop0 (by omega)
    have e4 : top / List.getD v (n - 1) 0 ≤ top := Int.ediv_le_self _ htop0
    simp only [e1, e2]
    rw [wrapI_u64 (n := top / List.getD v (n - 1) 0) e3 (by omega), a1, Option.bind_some]
    have kc1 : 0 < u.length := by omega
    have kc2 : (0 : Int) ≤ (k : Int) := by omega
    have kc3 : (k : Int) ≤ ((k + n + 1 : Nat) : Int) := by omega
    have kc4 : ((k + n + 1 : Nat) : Int) ≤ ((u.length : Nat) : Int) := by omega
    have k5 : (k : Int) < ((q.length : Nat) : Int) := by omega
    have k6 : k < q.length := by omega
    simp only [gd_true kc1, gd_true kc2, gd_true kc3, gd_true kc4, gd_true k5, gd_true k6, show k + n + 1 - k = n + 1 by omega]
    cases h95 : F195s0 k (n + 1) v g u with
    | none => rw [h95] at b1; cases b1
    | some y =>
      rw [h95, Option.bind_some] at b1
      rw [Option.bind_some, b1, Option.bind_some, wrapI_u32 (n := qd) b2 (by omega)]
      exact c1
   ·have hd : (List.set q k qd).drop k = qd :: q.drop (k + 1) := drop_set_succ (by omega) qd
    rw [hd] at c7
    have ev : val (qd :: q.drop (k + 1)) = qd + 1000000000 * val (q.drop (k + 1)) := rfl
    rw [ev] at c7
    rw [c7]
    have vu : val u = val (u.take k) + 1000000000 ^ k * val (u.drop k) := val_take_drop _ _ (by omega)
    have vu1 : val u1 = val (u.take k) + 1000000000 ^ k * val (u1.drop k) := by rw [val_take_drop u1 k (by omega), b6]
    rw [vu1, vu, b7]
    have p1 : (1000000000 : Int) ^ (k + 1) = 1000000000 ^ k * 1000000000 := Int.pow_succ _ _
    rw [p1]
    generalize (1000000000 : Int) ^ k = p
    generalize val (q.drop (k + 1)) = z
    generalize val v = V
    generalize val (u.drop k) = U
    rw [Int.mul_sub, Int.mul_add, Int.mul_add]
    have r1 : p * (qd * V) = V * (p * qd) := by rw [Int.mul_comm qd V, ← Int.mul_assoc, Int.mul_comm p V, Int.mul_assoc]
    have r2 : V * (p * 1000000000 * z) = V * (p * (1000000000 * z)) := by rw [Int.mul_assoc p]
    rw [r1, r2]
    omega
theorem F112o_eq (a b : List Int) : F112o a b = F112 a b := by kernel_rfl
theorem scale_ge {w d : Int} (hw : 1 ≤ w) (hwB : w < 1000000000) (h1 : d * (w + 1) ≤ 1000000000) (h2 : 1000000000 < (d + 1) * (w + 1)) : 500000000 ≤ d * w ∧ 1 ≤ d := by
 have hd : 1 ≤ d := by
  rcases Int.lt_or_le 0 d with h | h
  ·omega
  ·have : (d + 1) * (w + 1) ≤ 1 * (w + 1) := Int.mul_le_mul_of_nonneg_right (by omega) (by omega)
   omega
 refine ⟨?_, hd⟩
 rw [Int.mul_add, Int.mul_one] at h1
 rw [Int.add_mul, Int.mul_add, Int.mul_one, Int.one_mul] at h2
 by_cases hbig : 500000000 ≤ w
 ·have : 1 * w ≤ d * w := Int.mul_le_mul_of_nonneg_right hd (by omega)
  omega
 ·by_cases hw1 : w = 1
  ·subst hw1; omega
  ·by_cases hd2 : d ≤ 2
   ·have : d = 1 ∨ d = 2 := by omega
    rcases this with rfl | rfl <;> omega
   ·have : 0 ≤ (d - 3) * (w - 2) := Int.mul_nonneg (by omega) (by omega)
    rw [Int.mul_sub, Int.sub_mul, Int.sub_mul] at this
    omega
theorem norm_length {l : List Int} (h : Lim l) (hn : Norm l) {n : Nat} (h1 : 1000000000 ^ n ≤ val l) (h2 : val l < 1000000000 ^ (n + 1)) : l.length = n + 1 := by
 rcases Nat.lt_trichotomy l.length (n + 1) with h3 | h3 | h3
 ·exfalso
  have h4 := val_lt h
  have h5 : (1000000000 : Nat) ^ l.length ≤ 1000000000 ^ n := Nat.pow_le_pow_right (by decide) (by omega)
  have h6 : (((1000000000 : Nat) ^ l.length : Nat) : Int) ≤ (((1000000000 : Nat) ^ n : Nat) : Int) := Int.ofNat_le.2 h5
  rw [Int.natCast_pow, Int.natCast_pow] at h6
  have h7 : ((1000000000 : Nat) : Int) = 1000000000 := rfl
  rw [h7] at h6
  omega
 ·exact h3
 ·have := norm_ge h hn h3
  omega
theorem F157_spec {a0 a1 : List Int} (l0 : Lim a0) (l1 : Lim a1) (s0 : a0.length ≤ 10000000) (s1 : a1.length ≤ 10000000) (hpos : 0 < val a1) :
 ∃ q r, F157 a0 a1 = some (q, r) ∧ Lim q ∧ Lim r ∧ q.length ≤ a0.length + 2 ∧ r.length ≤ a0.length + a1.length + 2 ∧ val q * val a1 + val r = val a0 ∧ val r < val a1 := by
 have t0 := (trimL_take a0).2
 have t1 := (trimL_take a1).2
 have la := trimL_lim l0
 have lb := trimL_lim l1
 have na := trimL_norm a0
 have nb := trimL_norm a1
 have va := trimL_val a0
 have vb := trimL_val a1
 unfold F157
 rw [F159_spec (show small a0 by unfold small; omega), F159_spec (show small a1 by unfold small; omega)]
 simp only [Option.bind_some]
 generalize trimL a0 = a at *
 generalize trimL a1 = b at *
 rw [← va, ← vb]
 rw [← vb] at hpos
 by_cases hone : b.length = 1
 ·have e : (ofN b.length == (1 : Int)) = true := by rw [hone]; rfl
  rw [e]
  simp only [cond_true]
  rw [gd_true (by omega)]
  have hw := lb.getD 0
  have hvb : val b = List.getD b 0 0 := by
   match b, hone with
   | [x], _ => simp [val, List.getD]
  have t : toN (0 : Int) = 0 := rfl
  rw [t]
  obtain ⟨q, r, h1, h2, h3, h4, h5⟩ := F194_spec la (w := List.getD b 0 0) ⟨by omega, by omega⟩ (by unfold small; omega)
  rw [h1, Option.bind_some]
  refine ⟨q, [r], rfl, h2, Lim.one ⟨h4.1, by omega⟩, by omega, by simp, ?_, ?_⟩
  ·rw [hvb, ← h5]; simp [val]
  ·rw [hvb]; simp [val]; exact h4.2
 ·have e : (ofN b.length == (1 : Int)) = false := by
   rw [ofN_eq]; simp; omega
  rw [e]
  simp only [cond_false]
  rw [F114_spec la lb (by unfold small; omega) (by unfold small; omega), Option.bind_some]
  by_cases hlt : val a < val b
  ·have : cmpI (val a) (val b) = -1 := if_pos hlt
   rw [this]
   show ∃ q r, (gd (a.length ≤ 1073741824) (some (([] : List Int), a))) = some (q, r) ∧ _
   rw [gd_true (by omega)]
   exact ⟨[], a, rfl, Lim.nil, la, by simp, by omega, by simp [val], hlt⟩
  ·have hc : decide (cmpI (val a) (val b) < 0) = false := by
    unfold cmpI
    rw [if_neg hlt]
    split <;> rfl
   rw [hc]
   simp only [cond_false]
   have hbl : 2 ≤ b.length := by
    match b, hone, hpos with
    | [], _, h => simp [val] at h
    | [x], h, _ => exact absurd rfl h
    | _ :: _ :: _, _, _ => simp
   generalize hn : b.length = n at *
   have hw := lb.getD (n - 1)
   have hwpos : 1 ≤ List.getD b (n - 1) 0 := by
    rcases List.eq_nil_or_concat b with rfl | ⟨m, x, rfl⟩
    ·simp at hn; omega
    ·rw [List.concat_eq_append] at hn nb ⊢
     have hx := nb m x rfl
     have e2 : n - 1 = m.length := by simp at hn; omega
     have e3 : List.getD (m ++ [x]) m.length 0 = x := getD_concat m x 0
     rw [e2, e3]
     have := (lb x (by simp)).1
     omega
   generalize hwd : List.getD b (n - 1) 0 = w at *
   have i1 : wrapI .i64 (ofN n - (1 : Int)) = ((n - 1 : Nat) : Int) := by rw [ofN_eq, wrapI_i64] <;> omega
   have t1' : toN ((n - 1 : Nat) : Int) = n - 1 := rfl
   have x1 : wrapI .u64 w = w := wrapI_u64 (by omega) (by omega)
   have x2 : wrapI .u64 (w + 1) = w + 1 := wrapI_u64 (by omega) (by omega)
   have hdp : 0 ≤ 1000000000 / (w + 1) := Int.ediv_nonneg (by decide) (by omega)
   have hdl : 1000000000 / (w + 1) ≤ 1000000000 := Int.ediv_le_self _ (by decide)
   have hd1 : 1000000000 / (w + 1) * (w + 1) ≤ 1000000000 := Int.ediv_mul_le _ (by omega)
   have hd2 : 1000000000 < (1000000000 / (w + 1) + 1) * (w + 1) := Int.lt_ediv_add_one_mul_self _ (by omega)
   have e4 : Int.tdiv (1000000000 : Int) (w + 1) = 1000000000 / (w + 1) := Int.tdiv_eq_ediv_of_nonneg (by decide)
   have x3 : wrapI .u64 (Int.tdiv (1000000000 : Int) (w + 1)) = 1000000000 / (w + 1) := by rw [e4]; exact wrapI_u64 hdp (by omega)
   generalize hdd : 1000000000 / (w + 1) = d at *
   obtain ⟨hsc, hd3⟩ := scale_ge hwpos hw.2 hd1 hd2
   have hdB : d < 1000000000 := by
    have : d * 2 ≤ d * (w + 1) := Int.mul_le_mul_of_nonneg_left (by omega) (by omega)
    omega
   have x4 : wrapI .u32 d = d := wrapI_u32 (by omega) (by omega)
   have g1 : (0 : Int) ≤ ((n - 1 : Nat) : Int) := by omega
   have g2 : ((n - 1 : Nat) : Int) < ((n : Nat) : Int) := by omega
   have g3 : w + 1 ≠ 0 := by omega
   simp only [i1, t1', hwd, x1, x2, x3, x4, gd_true g1, gd_true g2, gd_true g3, F112o_eq]
   have lid : Lim [d] := Lim.one ⟨by omega, hdB⟩
   obtain ⟨y5, h51, h52, h53, h54⟩ := F112_spec la lid (by unfold small; omega) (by unfold small; simp) (by simp; omega)
   obtain ⟨y6, h61, h62, h63, h64⟩ := F112_spec lb lid (by unfold small; omega) (by unfold small; simp) (by simp; omega)
   have vd : val [d] = d := by simp [val]
   rw [vd] at h54 h64
   simp only [List.length_singleton] at h53 h63
   rw [h51, Option.bind_some, gd_true (by simp; omega), h61, Option.bind_some, F159_spec (show small y6 by unfold small; omega), Option.bind_some]
   -- the divisor, scaled
   have lv := trimL_lim h62
   have nv := trimL_norm y6
   have vv := trimL_val y6
   generalize trimL y6 = v at *
   have hbt : val b = val (b.take (n - 1)) + 1000000000 ^ (n - 1) * w := by
    have := val_take_succ' b (n - 1)
    rw [show n - 1 + 1 = n by omega, hwd] at this
    rw [← this, List.take_of_length_le (by omega)]
   have hbr := val_take_lt lb (k := n - 1) (by omega)
   have hP := pow_pos' (n - 1)
   have hpn : (1000000000 : Int) ^ n = 1000000000 ^ (n - 1) * 1000000000 := by rw [← Int.pow_succ]; congr 1; omega
   have vvd : val v = val b * d := by rw [vv, h64]
   generalize hPd : (1000000000 : Int) ^ (n - 1) = P at *
   have hlow : P * (d * w) ≤ val v := by
    rw [vvd, hbt, Int.add_mul]
    have e5 : P * w * d = P * (d * w) := by rw [Int.mul_assoc, Int.mul_comm w d]
    have : 0 ≤ val (b.take (n - 1)) * d := Int.mul_nonneg hbr.1 (by omega)
    omega
   have hhi : val v < 1000000000 ^ n := by
    rw [hpn, vvd]
    have h6 : val b + 1 ≤ P * (w + 1) := by rw [Int.mul_add, Int.mul_one]; omega
    have h7 : (val b + 1) * d ≤ P * (w + 1) * d := Int.mul_le_mul_of_nonneg_right h6 (by omega)
    have h8 : P * (w + 1) * d = P * (d * (w + 1)) := by rw [Int.mul_assoc, Int.mul_comm (w + 1) d]
    have h9 : P * (d * (w + 1)) ≤ P * 1000000000 := Int.mul_le_mul_of_nonneg_left hd1 (by omega)
    rw [Int.add_mul, Int.one_mul] at h7
    omega
   have hPv : P ≤ val v := by
    have : P * 1 ≤ P * (d * w) := Int.mul_le_mul_of_nonneg_left (by omega) (by omega)
    omega
   have hvl : n = v.length := by
    have := norm_length lv nv (n := n - 1) (by rw [hPd]; exact hPv) (by rw [show n - 1 + 1 = n by omega]; exact hhi)
    omega
   have htopv : 500000000 ≤ List.getD v (n - 1) 0 := by
    have h10 : val v = val (v.take (n - 1)) + P * List.getD v (n - 1) 0 := by
     have := val_take_succ' v (n - 1)
     rw [show n - 1 + 1 = n by omega, hPd] at this
     rw [← this, List.take_of_length_le (by omega)]
    have h11 := val_take_lt lv (k := n - 1) (by omega)
    rw [hPd] at h11
    have h12 : P * (d * w) < P * (List.getD v (n - 1) 0 + 1) := by rw [Int.mul_add, Int.mul_one]; omega
    have := Int.lt_of_mul_lt_mul_left h12 (by omega)
    omega
   have hvpos : 0 < val v := by omega
   -- lengths
   have hab : n ≤ a.length := by
    rcases Nat.lt_or_ge a.length n with h | h
    ·have := norm_lt la lb nb (by omega)
     omega
    ·exact h
   have lu : Lim (y5 ++ [0]) := h52.append (Lim.one (by omega))
   have hul : (y5 ++ [(0 : Int)]).length = a.length + 2 := by simp; omega
   have vu : val (y5 ++ [0]) = val a * d := by rw [val_zero_end, h54]
   have i2 : wrapI .i64 (ofN (y5 ++ [(0 : Int)]).length - ofN n) = ((a.length + 2 - n : Nat) : Int) := by rw [hul, ofN_eq, ofN_eq, wrapI_i64] <;> omega
   have i3 : wrapI .i64 (((a.length + 2 - n : Nat) : Int) - 1) = ((a.length + 2 - n : Nat) : Int) - 1 := by rw [wrapI_i64] <;> omega
   have t2 : toN ((a.length + 2 - n : Nat) : Int) = a.length + 2 - n := rfl
   have kc1 : (0 : Int) ≤ ((a.length + 2 - n : Nat) : Int) := by omega
   have kc2 : ((a.length + 2 - n : Nat) : Int) ≤ ((a.length + 2 - n : Nat) : Int) := by omega
   have kc3 : ((a.length + 2 - n : Nat) : Int) ≤ 1073741824 := by omega
   simp only [i2, i3, t2, gd_true kc1, gd_true kc2, gd_true kc3]
   have hsd : val ((y5 ++ [(0 : Int)]).drop (a.length + 2 - n)) < val v := by
    have e6 : (y5 ++ [(0 : Int)]).drop (a.length + 2 - n) = y5.drop (a.length + 2 - n) ++ [0] := by
     rw [List.drop_append_of_le_length (by omega)]
    rw [e6, val_zero_end]
    have h13 := val_lt (h52.drop (a.length + 2 - n))
    have h14 : (y5.drop (a.length + 2 - n)).length = n - 1 := by simp; omega
    rw [h14, hPd] at h13
    omega
   obtain ⟨u', q', c1, c2, c3, c4, c5, c6, c7⟩ := f157_l0_spec hbl hvl lv htopv hvpos (a.length + 2 - n) (2 + v.length + (y5 ++ [(0 : Int)]).length + (List.replicate (a.length + 2 - n) (0 : Int)).length) (y5 ++ [0]) (List.replicate (a.length + 2 - n) 0)
    (by simp; omega) lu (by intro x hx; rw [List.mem_replicate] at hx; rw [hx.2]; omega) (by omega) (by omega) (by simp) (by simp; omega) hsd
   have e7 : f157_l0 (ofN n) v (2 + v.length + (y5 ++ [(0 : Int)]).length + (List.replicate (a.length + 2 - n) (0 : Int)).length) (((a.length + 2 - n : Nat) : Int) - 1, y5 ++ [0], List.replicate (a.length + 2 - n) 0) = some (u', q') := c1
   rw [e7, Option.bind_some]
   have hqd : val ((List.replicate (a.length + 2 - n) (0 : Int)).drop (a.length + 2 - n)) = 0 := by
    rw [List.drop_of_length_le (by simp)]; rfl
   rw [hqd, Int.mul_zero, Int.mul_zero, Int.add_zero, vu] at c7
   have m1 : (0 : Int) ≤ ofN n := by rw [ofN_eq]; omega
   have m2 : ofN n ≤ ((u'.length : Nat) : Int) := by rw [ofN_eq]; omega
   have t3 : Int.toNat (ofN n) = n := rfl
   simp only [gd_true m1, gd_true m2, t3]
   have hut : val (u'.take n) = val u' := val_take_of_lt c2 (by omega)
   have htl : (u'.take n).length ≤ n := by simp; omega
   rw [F159_spec (show small (u'.take n) by unfold small; omega), Option.bind_some]
   have lr := trimL_lim (c2.take n)
   have vr := trimL_val (u'.take n)
   have sr := (trimL_take (u'.take n)).2
   generalize trimL (u'.take n) = rr at *
   obtain ⟨q2, r2, p1, p2, p3, p4, p5⟩ := F194_spec lr (w := d) ⟨by omega, by omega⟩ (by unfold small; omega)
   rw [p1, Option.bind_some]
   -- the remainder is a multiple of the scale
   have hr : val q2 * d + r2 = (val a - val b * val q') * d := by
    rw [p5, vr, hut, Int.sub_mul]
    have : val v * val q' = val b * val q' * d := by rw [vvd, Int.mul_assoc, Int.mul_comm d, ← Int.mul_assoc]
    omega
   have hr2 : r2 = 0 := by
    have h15 : (val a - val b * val q' - val q2) * d = r2 := by rw [Int.sub_mul]; omega
    rcases Int.lt_trichotomy (val a - val b * val q' - val q2) 0 with h | h | h
    ·have : (val a - val b * val q' - val q2) * d ≤ (-1) * d := Int.mul_le_mul_of_nonneg_right (by omega) (by omega)
     omega
    ·rw [h, Int.zero_mul] at h15; exact h15.symm
    ·have : 1 * d ≤ (val a - val b * val q' - val q2) * d := Int.mul_le_mul_of_nonneg_right (by omega) (by omega)
     omega
   subst hr2
   rw [Int.add_zero] at hr
   have hq2 : val q2 = val a - val b * val q' := Int.eq_of_mul_eq_mul_right (by omega) hr
   refine ⟨q', q2, rfl, c3, p2, by rw [c5]; simp; omega, by omega, by rw [hq2, Int.mul_comm]; omega, ?_⟩
   have h16 : val q2 * d < val b * d := by
    rw [Int.add_zero] at p5
    rw [p5, vr, hut, ← vvd]
    exact c6
   exact Int.lt_of_mul_lt_mul_right h16 (by omega)
theorem valF_limbs (n : Nat) : valF (limbs n) = n := by
 have key : ∀ l : List Int, Lim l → (valF l : Int) = val l := by
  intro l
  induction l with
  | nil => intro _; rfl
  | cons x l ih =>
    intro h
    have hx := h.cons
    have e1 : valF (x :: l) = x.toNat + 1000000000 * valF l := rfl
    have e2 : val (x :: l) = x + 1000000000 * val l := rfl
    rw [e1, e2, ← ih hx.2]
    have := hx.1.1
    omega
 have h1 := key _ (limbs_lim n)
 rw [limbs_val] at h1
 exact Int.ofNat.inj h1
def bd (n : Nat) (x : Int) : Prop := (limbs x.natAbs).length ≤ n
theorem limbs_le {m n : Nat} (h : m ≤ n) : (limbs m).length ≤ (limbs n).length := by
 rcases Nat.lt_or_ge (limbs n).length (limbs m).length with h1 | h1
 ·have := norm_lt (limbs_lim n) (limbs_lim m) (limbs_spec m).2.1 h1
  rw [limbs_val, limbs_val] at this
  omega
 ·exact h1
theorem limbs_len {m n : Nat} : (limbs m).length ≤ n ↔ (m : Int) < 1000000000 ^ n := by
 constructor
 ·intro h
  have h1 := val_lt (limbs_lim m)
  rw [limbs_val] at h1
  have h5 : (1000000000 : Nat) ^ (limbs m).length ≤ 1000000000 ^ n := Nat.pow_le_pow_right (by decide) h
  have h6 : (((1000000000 : Nat) ^ (limbs m).length : Nat) : Int) ≤ (((1000000000 : Nat) ^ n : Nat) : Int) := Int.ofNat_le.2 h5
  rw [Int.natCast_pow, Int.natCast_pow] at h6
  have h7 : ((1000000000 : Nat) : Int) = 1000000000 := rfl
  rw [h7] at h6
  omega
 ·intro h
  rcases Nat.lt_or_ge n (limbs m).length with h1 | h1
  ·have := norm_ge (limbs_lim m) (limbs_spec m).2.1 h1
   rw [limbs_val] at this
   omega
  ·exact h1
theorem bd_iff {n : Nat} {x : Int} : bd n x ↔ (x.natAbs : Int) < 1000000000 ^ n := limbs_len
theorem bd_mono {n m : Nat} {x : Int} (h : bd n x) (hm : n ≤ m) : bd m x := Nat.le_trans h hm
theorem bd_le {n : Nat} {x y : Int} (h : bd n x) (hy : y.natAbs ≤ x.natAbs) : bd n y := Nat.le_trans (limbs_le hy) h
theorem bd_neg {n : Nat} {x : Int} (h : bd n x) : bd n (-x) := by unfold bd; rw [Int.natAbs_neg]; exact h
theorem bd_mul {n m : Nat} {x y : Int} (hx : bd n x) (hy : bd m y) : bd (n + m) (x * y) := by
 rw [bd_iff] at *
 rw [Int.natAbs_mul, Int.natCast_mul, Int.pow_add]
 have h1 : (x.natAbs : Int) * (y.natAbs : Int) ≤ 1000000000 ^ n * (y.natAbs : Int) := Int.mul_le_mul_of_nonneg_right (by omega) (by omega)
 have h2 : (1000000000 : Int) ^ n * (y.natAbs : Int) < 1000000000 ^ n * 1000000000 ^ m := Int.mul_lt_mul_of_pos_left hy (pow_pos' n)
 omega
theorem bd_add {n : Nat} {x y : Int} (hx : bd n x) (hy : bd n y) : bd (n + 1) (x + y) := by
 rw [bd_iff] at *
 have : (1000000000 : Int) ^ (n + 1) = 1000000000 ^ n * 1000000000 := Int.pow_succ _ _
 omega
theorem bd_sm {n : Nat} {x : Int} (h : bd n x) (hn : n ≤ 1000) : sm x := by unfold sm; unfold bd at h; omega
theorem limbs_nil {n : Nat} : (limbs n).length = 0 ↔ n = 0 := by
 rw [← List.isEmpty_iff_length_eq_zero, limbs_empty]
 simp
theorem F109_spec {x : Int} (h : bd 1000 x) : F109 (enc x) = some (enc (-x)) := by
 unfold bd at h
 unfold F109
 show gd ((limbs x.natAbs).length ≤ 1073741824) ((F106 (!(decide (x < 0))) (limbs x.natAbs)).bind fun y1 => some y1) = _
 rw [gd_true (by omega), F106_enc (limbs_lim _) (by unfold small; omega), Option.bind_some, limbs_val]
 by_cases hx : x < 0
 ·rw [decide_eq_true hx]
  simp only [Bool.not_true, cond_false]
  rw [show ((x.natAbs : Nat) : Int) = -x by omega]
 ·rw [decide_eq_false hx]
  simp only [Bool.not_false, cond_true]
  rw [show ((x.natAbs : Nat) : Int) = x by omega]
def sgn (x : Int) : Int := if x < 0 then -1 else if 0 < x then 1 else 0
theorem F108_spec (x : Int) : F108 (enc x) = some (sgn x) := by
 unfold F108 sgn
 show (bif decide (x < 0) then _ else (bif decide ((0 : Int) < ofN (limbs x.natAbs).length) then _ else _)) = _
 rw [limbs_pos]
 by_cases hx : x < 0
 ·rw [decide_eq_true hx, if_pos hx]; rfl
 ·rw [decide_eq_false hx, if_neg hx]
  simp only [cond_false]
  by_cases h0 : 0 < x
  ·rw [if_pos h0, decide_eq_true (by omega)]; rfl
  ·rw [if_neg h0, decide_eq_false (by omega)]; rfl
theorem F111_spec {x g : Int} (hx : bd 1000 x) (hg : bd 1000 g) (hpos : 0 < g) (hd : g ∣ x) : F111 (enc x) (enc g) = some (enc (x / g)) := by
 have hx' := hx
 have hg' := hg
 unfold bd at hx' hg'
 obtain ⟨c, rfl⟩ := hd
 obtain ⟨q, r, h1, h2, h3, h4, h5, h6, h7⟩ := F157_spec (limbs_lim (g * c).natAbs) (limbs_lim g.natAbs) (by omega) (by omega) (by rw [limbs_val]; omega)
 rw [limbs_val, limbs_val] at h6
 rw [limbs_val] at h7
 have hr0 := val_nonneg h3
 have hq0 := val_nonneg h2
 have hab : (((g * c).natAbs : Nat) : Int) = g * (c.natAbs : Int) := by
  rw [Int.natAbs_mul, Int.natCast_mul]
  congr 1
  omega
 have hga : ((g.natAbs : Nat) : Int) = g := by omega
 rw [hab, hga] at h6
 rw [hga] at h7
 have hr : val r = 0 := by
  have e : g * ((c.natAbs : Int) - val q) = val r := by rw [Int.mul_sub, Int.mul_comm g (val q)]; omega
  rcases Int.lt_trichotomy ((c.natAbs : Int) - val q) 0 with h | h | h
  ·have : g * ((c.natAbs : Int) - val q) ≤ g * (-1) := Int.mul_le_mul_of_nonneg_left (by omega) (by omega)
   omega
  ·rw [h, Int.mul_zero] at e; exact e.symm
  ·have : g * 1 ≤ g * ((c.natAbs : Int) - val q) := Int.mul_le_mul_of_nonneg_left (by omega) (by omega)
   omega
 have hq : val q = (c.natAbs : Int) := by
  rw [hr, Int.add_zero, Int.mul_comm] at h6
  exact Int.eq_of_mul_eq_mul_left (by omega) h6
 unfold F111 F158
 show Option.bind (bif (ofN (limbs g.natAbs).length == (0 : Int)) then _ else _) _ = _
 have e0 : (ofN (limbs g.natAbs).length == (0 : Int)) = false := by
  have : (limbs g.natAbs).length ≠ 0 := fun e => by have := limbs_nil.1 e; omega
  rw [ofN_eq]; simp; intro e; rw [e] at this; exact this rfl
 rw [e0]
 simp only [cond_false]
 have h1' : F157 (enc (g * c)).2 (enc g).2 = some (q, r) := h1
 rw [h1', Option.bind_some, F106_enc h2 (by unfold small; omega), Option.bind_some, F106_enc h3 (by unfold small; omega), Option.bind_some, hr]
 have e1 : ∀ b : Bool, (bif b then -(0 : Int) else 0) = 0 := by intro b; cases b <;> rfl
 rw [e1]
 have e2 : (enc 0).2 = [] := by unfold enc; rw [show (0 : Int).natAbs = 0 from rfl, limbs]
 rw [e2]
 have e3 : decide ((0 : Int) < ofN ([] : List Int).length) = false := rfl
 rw [e3]
 simp only [cond_false, Option.bind_some]
 rw [Int.mul_ediv_cancel_left _ (show g ≠ 0 by omega), hq]
 congr 2
 show (bif !(decide (g * c < 0) == decide (g < 0)) then -((c.natAbs : Nat) : Int) else ((c.natAbs : Nat) : Int)) = c
 rw [decide_eq_false (show ¬ g < 0 by omega)]
 by_cases hc : c < 0
 ·have : g * c < 0 := Int.mul_neg_of_pos_of_neg hpos hc
  rw [decide_eq_true this]
  show -((c.natAbs : Nat) : Int) = c
  omega
 ·have : 0 ≤ g * c := Int.mul_nonneg (by omega) (by omega)
  rw [decide_eq_false (show ¬ g * c < 0 by omega)]
  show ((c.natAbs : Nat) : Int) = c
  omega
theorem f110_l0_spec : ∀ (n m f : Nat), n < f → (limbs m).length ≤ 1000 → (limbs n).length ≤ 1000 →
 f110_l0 f (enc (m : Int), enc (n : Int)) = some (.inl (enc ((Nat.gcd m n : Nat) : Int))) ∨ f110_l0 f (enc (m : Int), enc (n : Int)) = some (.inr (enc ((Nat.gcd m n : Nat) : Int))) := by
 intro n
 induction n using Nat.strongRecOn with
 | _ n ih =>
   intro m f hf hm hn
   obtain ⟨f, rfl⟩ : ∃ g, f = g + 1 := ⟨f - 1, by omega⟩
   have em : enc (m : Int) = (false, limbs m) := by
    unfold enc
    rw [decide_eq_false (show ¬ (m : Int) < 0 by omega)]
    rfl
   have en : enc (n : Int) = (false, limbs n) := by
    unfold enc
    rw [decide_eq_false (show ¬ (n : Int) < 0 by omega)]
    rfl
   have step : f110_l0 (f + 1) (enc (m : Int), enc (n : Int)) = f110_l0_b (f110_l0 f) (enc (m : Int), enc (n : Int)) := rfl
   rw [step]
   unfold f110_l0_b
   show (bif decide ((0 : Int) < ofN (limbs n).length) then _ else _) = _ ∨ (bif decide ((0 : Int) < ofN (limbs n).length) then _ else _) = _
   rw [limbs_pos]
   by_cases h0 : n = 0
   ·subst h0
    rw [decide_eq_false (by omega)]
    rw [Nat.gcd_zero_right]
    exact .inl rfl
   ·rw [decide_eq_true h0]
    simp only [cond_true]
    rw [em, en, F156_spec (limbs_lim m) (by unfold small; omega), F156_spec (limbs_lim n) (by unfold small; omega), Option.bind_some, Option.bind_some]
    have div : ((F157 (limbs m) (limbs n)).bind fun y26 => (F106 false y26.2).bind fun y27 => f110_l0 f ((false, limbs n), y27)) = f110_l0 f (enc (n : Int), enc ((m % n : Nat) : Int)) := by
     obtain ⟨q, r, h1, h2, h3, h4, h5, h6, h7⟩ := F157_spec (limbs_lim m) (limbs_lim n) (by omega) (by omega) (by rw [limbs_val]; omega)
     rw [limbs_val, limbs_val] at h6
     rw [limbs_val] at h7
     rw [h1, Option.bind_some, F106_enc h3 (by unfold small; omega), Option.bind_some, ← en]
     have hr0 := val_nonneg h3
     have hq0 := val_nonneg h2
     have : val r = ((m % n : Nat) : Int) := by
      rw [Int.natCast_emod, ← h6, Int.add_comm, Int.add_mul_emod_self_right]
      exact (Int.emod_eq_of_lt hr0 h7).symm
     simp only [cond_false]
     rw [this]
    have hmod : m % n < n := Nat.mod_lt _ (by omega)
    have hrec := ih (m % n) hmod n f (by omega) hn (Nat.le_trans (limbs_le (by omega)) hn)
    have hg : Nat.gcd n (m % n) = Nat.gcd m n := by rw [Nat.gcd_comm m n, Nat.gcd_rec n m, Nat.gcd_comm]
    rw [hg] at hrec
    by_cases hw1 : (limbs m).length ≤ 2
    ·rw [if_pos hw1]
     simp only [cond_true]
     by_cases hw2 : (limbs n).length ≤ 2
     ·rw [if_pos hw2]
      simp only [cond_true]
      rw [limbs_val, limbs_val]
      have t : Int.toNat ((n : Nat) : Int) = n := rfl
      rw [t, f110_l1_spec (2 + n) m n (by omega), Option.bind_some]
      have hb : (n : Int) < 1000000000 ^ 2 := limbs_len.1 hw2
      have hgl : Nat.gcd n m ≤ n := Nat.gcd_le_left m (by omega)
      obtain ⟨l, kc1, kc2, kc3, kc4⟩ := F107_spec (u := ((Nat.gcd n m : Nat) : Int)) ⟨by omega, by
       have : (1000000000 : Int) ^ 2 = 1000000000000000000 := rfl
       omega⟩
      rw [kc1, Option.bind_some, F106_enc kc2 (by unfold small; omega), Option.bind_some, kc4, Nat.gcd_comm n m]
      exact .inr rfl
     ·rw [if_neg hw2]
      simp only [cond_false]
      rw [div]
      exact hrec
    ·rw [if_neg hw1]
     simp only [cond_false]
     rw [div]
     exact hrec
theorem F110_spec {x y : Int} (hx : bd 1000 x) (hy : bd 1000 y) : F110 (enc x) (enc y) = some (enc ((Int.gcd x y : Nat) : Int)) := by
 unfold bd at hx hy
 have e : ∀ z : Int, (limbs z.natAbs).length ≤ 1000 → F106 false (enc z).2 = some (enc ((z.natAbs : Nat) : Int)) := by
  intro z hz
  have : (enc z).2 = limbs z.natAbs := rfl
  rw [this, F106_enc (limbs_lim _) (by unfold small; omega), limbs_val]
  rfl
 unfold F110
 rw [e x hx, e y hy, Option.bind_some, Option.bind_some]
 have ev : valF (enc ((y.natAbs : Nat) : Int)).2 = y.natAbs := valF_limbs _
 rw [ev]
 have hgl : (limbs (Int.gcd x y)).length ≤ 1000 := by
  by_cases h0 : x.natAbs = 0
  ·have : Int.gcd x y = y.natAbs := by unfold Int.gcd; rw [h0, Nat.gcd_zero_left]
   rw [this]; exact hy
  ·exact Nat.le_trans (limbs_le (Nat.gcd_le_left _ (by omega))) hx
 rcases f110_l0_spec y.natAbs x.natAbs (2 + y.natAbs) (by omega) hx hy with h | h
 ·rw [h, Option.bind_some]
  have h2 : (enc ((Nat.gcd x.natAbs y.natAbs : Nat) : Int)).2 = limbs (Int.gcd x y) := rfl
  simp only
  rw [h2, gd_true (by omega), F106_enc (limbs_lim _) (by unfold small; omega), Option.bind_some, limbs_val]
  rfl
 ·rw [h, Option.bind_some]
  rfl
abbrev AI := Bool × List Int
abbrev RT := AI × AI
theorem bd_one : bd 1 1 := by rw [bd_iff]; decide
theorem F105_spec : F105 = some (enc 1) := by
 unfold F105
 rw [F66_spec (by omega), Option.bind_some]
def QV (n : Nat) (p : RT) (N D : Int) : Prop := ∃ a b, p = (enc a, enc b) ∧ 0 < b ∧ bd n a ∧ bd n b ∧ a * D = N * b ∧ D ≠ 0
theorem QV.mono {n m : Nat} {p : RT} {N D : Int} (h : QV n p N D) (hm : n ≤ m) : QV m p N D := by
 obtain ⟨a, b, h1, h2, h3, h4, h5, h6⟩ := h
 exact ⟨a, b, h1, h2, bd_mono h3 hm, bd_mono h4 hm, h5, h6⟩
theorem F69_tot (a b : Int) : F69 a b = some (cmpI a b) := by
 unfold F69 F113 cmpI
 simp only [bne_self_eq_false, Option.bind_some, cond_false]
 by_cases h : a < b
 ·rw [decide_eq_true h, if_pos h]; rfl
 ·rw [decide_eq_false h, if_neg h]
  by_cases h2 : b < a
  ·rw [decide_eq_true h2, if_pos h2]; rfl
  ·rw [decide_eq_false h2, if_neg h2]; rfl
theorem wrap_succ {i : Nat} (h : i < 1073741825) : wrapI .i64 ((i : Int) + 1) = ((i + 1 : Nat) : Int) := by
 rw [wrapI_i64] <;> omega
theorem dec_lt {i n : Nat} (h : i < n) : decide ((i : Int) < ofN n) = true := by simp [ofN_eq]; exact h
theorem dec_nlt {i n : Nat} (h : n ≤ i) : decide ((i : Int) < ofN n) = false := by simp [ofN_eq]; exact h
theorem F120_eq (l : List Int) : F120 l = F159 l := by kernel_rfl
theorem F120_spec' {l : List Int} (h : Lim l) (hs : small l) : F120 l = some (limbs (val l).toNat) := by
 rw [F120_eq, F159_spec hs, trim_eq h]
theorem F75_spec {neg : Bool} {l : List Int} (h : Lim l) (hs : small l) : F75 neg l = some (enc (bif neg then -(val l) else val l)) := by
 have hv := val_nonneg h
 unfold F75
 rw [F120_spec' h hs, Option.bind_some, limbs_pos]
 unfold enc
 cases neg with
 | false =>
   simp only [cond_false]
   rw [decide_eq_false (show ¬ val l < 0 by omega), show (val l).natAbs = (val l).toNat by omega]
 | true =>
   simp only [cond_true]
   rw [show (-(val l)).natAbs = (val l).toNat by omega]
   congr 2
   exact decide_eq_decide.2 (by omega)
theorem f74_eq (a b : List Int) : F114 a b = (F159 a).bind fun x => (F159 b).bind fun y => F74 x y := by kernel_rfl
theorem F74_spec' (m n : Nat) (hm : (limbs m).length ≤ 100000000) (hn : (limbs n).length ≤ 100000000) : F74 (limbs m) (limbs n) = some (cmpI m n) := by
 have h := F114_spec (limbs_lim m) (limbs_lim n) (by unfold small; omega) (by unfold small; omega)
 rw [f74_eq, F159_spec (by unfold small; omega), F159_spec (by unfold small; omega), norm_trim (limbs_spec m).2.1, norm_trim (limbs_spec n).2.1] at h
 rw [limbs_val, limbs_val] at h
 exact h
theorem F47_spec' {x y : Int} (hx : sm x) (hy : sm y) : F47 (enc x) (enc y) = some (cmpI x y) := by
 unfold sm at hx hy
 unfold F47
 show (bif !(decide (x < 0) == decide (y < 0)) then (bif decide (x < 0) then _ else _) else (bif decide (x < 0) then ((F74 (limbs y.natAbs) (limbs x.natAbs)).bind _) else ((F74 (limbs x.natAbs) (limbs y.natAbs)).bind _))) = _
 rw [F74_spec' _ _ hx hy, F74_spec' _ _ hy hx]
 by_cases h1 : x < 0 <;> by_cases h2 : y < 0
 ·rw [decide_eq_true h1, decide_eq_true h2]
  show some (cmpI (y.natAbs : Int) (x.natAbs : Int)) = _
  unfold cmpI
  congr 1
  split <;> split <;> (try split) <;> (try split) <;> omega
 ·rw [decide_eq_true h1, decide_eq_false h2]
  show some (-1 : Int) = _
  unfold cmpI
  rw [if_pos (by omega)]
 ·rw [decide_eq_false h1, decide_eq_true h2]
  show some (1 : Int) = _
  unfold cmpI
  rw [if_neg (by omega), if_pos (by omega)]
 ·rw [decide_eq_false h1, decide_eq_false h2]
  show some (cmpI (x.natAbs : Int) (y.natAbs : Int)) = _
  rw [show (x.natAbs : Int) = x by omega, show (y.natAbs : Int) = y by omega]
theorem F127_spec' (x : Int) : F127 (enc x) = some (sgn x) := by
 unfold F127 sgn
 show (bif (ofN (limbs x.natAbs).length == (0 : Int)) then _ else (bif decide (x < 0) then _ else _)) = _
 have e : (ofN (limbs x.natAbs).length == (0 : Int)) = decide (x = 0) := by
  rw [ofN_eq, Bool.eq_iff_iff]
  simp only [beq_iff_eq, decide_eq_true_eq]
  constructor
  ·intro h
   have : (limbs x.natAbs).length = 0 := by omega
   have := limbs_nil.1 this
   omega
  ·intro h
   have := limbs_nil.2 (show x.natAbs = 0 by omega)
   omega
 rw [e]
 by_cases h0 : x = 0
 ·rw [decide_eq_true h0]; subst h0; rfl
 ·rw [decide_eq_false h0]
  simp only [cond_false]
  by_cases h1 : x < 0
  ·rw [decide_eq_true h1, if_pos h1]; rfl
  ·rw [decide_eq_false h1, if_neg h1, if_pos (by omega)]; rfl
theorem F128_spec' {x : Int} (h : bd 1000 x) : F128 (enc x) = some (enc (-x)) := by
 unfold bd at h
 unfold F128
 show ((F75 (!(decide (x < 0))) (limbs x.natAbs)).bind fun y1 => some y1) = _
 rw [F75_spec (limbs_lim _) (by unfold small; omega), Option.bind_some, limbs_val]
 by_cases hx : x < 0
 ·rw [decide_eq_true hx]
  simp only [Bool.not_true, cond_false]
  rw [show ((x.natAbs : Nat) : Int) = -x by omega]
 ·rw [decide_eq_false hx]
  simp only [Bool.not_false, cond_true]
  rw [show ((x.natAbs : Nat) : Int) = x by omega]
theorem f80_l0_spec : ∀ (k : Nat) (u : Nat) (out : List Int) (f : Nat), u < 1000000000 ^ k → k < f → u < 18446744073709551616 → out.length + k ≤ 1000 → f80_l0 f ((u : Int), out) = some (out ++ limbs u) := by
 intro k
 induction k with
 | zero =>
   intro u out f hu hf _ _
   obtain ⟨f, rfl⟩ : ∃ g, f = g + 1 := ⟨f - 1, by omega⟩
   have : u = 0 := by simp at hu; omega
   subst this
   rw [limbs, List.append_nil]; rfl
 | succ k ih =>
   intro u out f hu hf h64 ho
   obtain ⟨f, rfl⟩ : ∃ g, f = g + 1 := ⟨f - 1, by omega⟩
   cases u with
   | zero => rw [limbs, List.append_nil]; rfl
   | succ u =>
     show (bif decide ((0 : Int) < ((u + 1 : Nat) : Int)) then _ else _) = _
     rw [decide_eq_true (show (0 : Int) < ((u + 1 : Nat) : Int) by omega)]
     simp only [cond_true]
     have e1 : Int.tmod ((u + 1 : Nat) : Int) 1000000000 = (((u + 1) % 1000000000 : Nat) : Int) := by rw [Int.tmod_eq_emod_of_nonneg (by omega)]; rfl
     have e2 : Int.tdiv ((u + 1 : Nat) : Int) 1000000000 = (((u + 1) / 1000000000 : Nat) : Int) := by rw [Int.tdiv_eq_ediv_of_nonneg (by omega)]; rfl
     have h1 : (u + 1) / 1000000000 < 1000000000 ^ k := by
      rw [Nat.pow_succ] at hu
      exact Nat.div_lt_of_lt_mul (by rw [Nat.mul_comm]; exact hu)
     rw [e1, e2, wrapI_u32 (n := (((u + 1) % 1000000000 : Nat) : Int)) (by omega) (by omega), wrapI_u64 (n := (((u + 1) / 1000000000 : Nat) : Int)) (by omega) (by omega), gd_true (by simp; omega)]
     have := ih ((u + 1) / 1000000000) (out ++ [(((u + 1) % 1000000000 : Nat) : Int)]) f h1 (by omega) (by omega) (by simp; omega)
     refine Eq.trans this ?_
     rw [limbs, List.append_assoc]
     rfl
theorem F80_spec' {u : Nat} (h : u < 18446744073709551616) : F80 (u : Int) = some (limbs u) := by
 unfold F80
 have := f80_l0_spec 3 u [] 6 (by have : (1000000000 : Nat) ^ 3 = 1000000000000000000000000000 := rfl; omega) (by omega) h (by simp)
 rw [this]
 rfl
theorem F53_spec' {n : Int} (h : -9223372036854775808 ≤ n ∧ n ≤ 9223372036854775807) : F53 n = some (enc n) := by
 unfold F53
 by_cases hn : n < 0
 ·rw [decide_eq_true hn]
  simp only [cond_true]
  have e : wrapI .u64 (0 - wrapI .u64 n) = ((n.natAbs : Nat) : Int) := by
   simp only [wrapI, IntKind.wrap, IntKind.signed, IntKind.bits]
   simp
   omega
  rw [e, F80_spec' (by omega), Option.bind_some, F75_spec (limbs_lim _) (by
   have : (limbs n.natAbs).length ≤ 3 := limbs_len.2 (by have : (1000000000 : Int) ^ 3 = 1000000000000000000000000000 := rfl; omega)
   unfold small; omega), Option.bind_some, limbs_val]
  simp only [cond_true]
  rw [show -((n.natAbs : Nat) : Int) = n by omega]
 ·rw [decide_eq_false hn]
  simp only [cond_false]
  have e : wrapI .u64 n = ((n.natAbs : Nat) : Int) := by rw [wrapI_u64] <;> omega
  rw [e, F80_spec' (by omega), Option.bind_some, F75_spec (limbs_lim _) (by
   have : (limbs n.natAbs).length ≤ 3 := limbs_len.2 (by have : (1000000000 : Int) ^ 3 = 1000000000000000000000000000 := rfl; omega)
   unfold small; omega), Option.bind_some, limbs_val]
  simp only [cond_false]
  rw [show ((n.natAbs : Nat) : Int) = n by omega]
theorem F167_spec' {l : List Int} (h : Lim l) (hl : l.length ≤ 2) : F167 l = some (val l) := by
 unfold F167
 have key : ∀ (f : Nat) (x : Int), f167_l0 l (f + 1) (x, -1) = some x := fun f x => rfl
 match l, h, hl with
 | [], _, _ =>
   show ((f167_l0 [] 2 ((0 : Int), (wrapI .i64 ((ofN 0) - (1 : Int))))).bind _) = _
   rfl
 | [x], h, _ =>
   have hx := h x (by simp)
   have e1 : wrapI .u64 x = x := wrapI_u64 (by omega) (by omega)
   have : f167_l0 [x] (2 + [x].length) ((0 : Int), (wrapI .i64 ((ofN [x].length) - (1 : Int)))) = some (wrapI .u64 (0 + wrapI .u64 x)) := rfl
   rw [this, e1, Option.bind_some, wrapI_u64 (by omega) (by omega)]
   simp [val]
 | [x, y], h, _ =>
   have hx := h x (by simp)
   have hy := h y (by simp)
   have e1 : wrapI .u64 x = x := wrapI_u64 (by omega) (by omega)
   have e2 : wrapI .u64 y = y := wrapI_u64 (by omega) (by omega)
   have : f167_l0 [x, y] (2 + [x, y].length) ((0 : Int), (wrapI .i64 ((ofN [x, y].length) - (1 : Int)))) = some (wrapI .u64 (wrapI .u64 (wrapI .u64 (0 + wrapI .u64 y) * 1000000000) + wrapI .u64 x)) := rfl
   rw [this, e1, e2, Option.bind_some, wrapI_u64 (n := 0 + y) (by omega) (by omega), wrapI_u64 (n := (0 + y) * 1000000000) (by omega) (by omega), wrapI_u64 (by omega) (by omega)]
   simp [val]
   omega
theorem loop_ex {σ S R : Type} (mk : Nat → S → σ) (B : (σ → Option R) → σ → Option R) (len : Nat) (Inv : Nat → S → Prop) (Q : R → Prop)
 (hB : ∀ (i : Nat) s, i < len → Inv i s → (∃ s', Inv (i + 1) s' ∧ ∀ again, B again (mk i s) = again (mk (i + 1) s')) ∨ (∃ r, Q r ∧ ∀ again, B again (mk i s) = some r))
 (hE : ∀ s, Inv len s → ∃ r, Q r ∧ ∀ again, B again (mk len s) = some r) :
 ∀ (n i f : Nat) s, i + n = len → n < f → Inv i s → ∃ r, Q r ∧ loopF B f (mk i s) = some r := by
 intro n
 induction n with
 | zero =>
   intro i f s hi hf hs
   obtain ⟨f, rfl⟩ : ∃ g, f = g + 1 := ⟨f - 1, by omega⟩
   obtain rfl : i = len := by omega
   obtain ⟨r, h1, h2⟩ := hE s hs
   exact ⟨r, h1, h2 _⟩
 | succ n ih =>
   intro i f s hi hf hs
   obtain ⟨f, rfl⟩ : ∃ g, f = g + 1 := ⟨f - 1, by omega⟩
   rcases hB i s (by omega) hs with ⟨s', h1, h2⟩ | ⟨r, h1, h2⟩
   ·obtain ⟨r, h3, h4⟩ := ih (i + 1) f s' (by omega) (by omega) h1
    refine ⟨r, h3, ?_⟩
    show B (loopF B f) (mk i s) = _
    rw [h2]
    exact h4
   ·exact ⟨r, h1, h2 _⟩
theorem val_zeros (n : Nat) : val (List.replicate n (0 : Int)) = 0 := by
 induction n with
 | zero => rfl
 | succ n ih => rw [List.replicate_succ, val, ih]; rfl
theorem lim_zeros (n : Nat) : Lim (List.replicate n (0 : Int)) := by intro x hx; rw [List.mem_replicate] at hx; rw [hx.2]; omega
theorem val_set_take {l : List Int} {i : Nat} (h : i < l.length) (d : Int) : val ((List.set l i d).take (i + 1)) = val (l.take i) + 1000000000 ^ i * d := by
 rw [take_set_succ h, val_concat]
 congr 3
 simp
 omega
theorem f206_c2_spec {b : List Int} (hb : Lim b) {i : Nat} (hi : i < 1000000000) {x : Int} (hx : 0 ≤ x ∧ x ≤ 1000000000) : f206_c2 b x (i : Int) (decide ((i : Int) < ofN b.length)) = some (x + List.getD b i 0) := by
 unfold f206_c2
 have hg := hb.getD i
 by_cases h : i < b.length
 ·rw [dec_lt h]
  simp only [cond_true]
  rw [gd_true (by omega), gd_true (by omega)]
  have t : toN (i : Int) = i := rfl
  rw [t, wrapI_u32 (by omega) (by omega)]
 ·rw [dec_nlt (by omega)]
  have : List.getD b i 0 = 0 := by simp [List.getD, List.getElem?_eq_none (show b.length ≤ i by omega)]
  rw [this, Int.add_zero]
  rfl
theorem F206_spec {a b : List Int} (ha : Lim a) (hb : Lim b) (sa : a.length ≤ 10000000) (sb : b.length ≤ 10000000) : F206 a b = some (limbs (val a + val b).toNat) := by
 have main : ∀ {a b : List Int}, Lim a → Lim b → a.length ≤ 10000000 → b.length ≤ a.length → ((f206_l1 a b (2 + a.length + b.length + (List.replicate (a.length + 1) (0 : Int)).length) ((0 : Int), (0 : Int), List.replicate (a.length + 1) (0 : Int))).bind fun o24 =>
  gd (0 ≤ (ofN (List.length a))) <| gd ((ofN (List.length a)) < ((List.length o24.2 : Nat) : Int)) <| gd ((toN (ofN (List.length a))) < List.length o24.2) <|
  (F120 (List.set o24.2 (toN (ofN (List.length a))) o24.1)).bind fun y25 => some y25) = some (limbs (val a + val b).toNat) := by
  intro a b ha hb sa hl
  have h := loop_ex (fun (i : Nat) (s : Int × List Int) => (s.1, (i : Int), s.2)) (f206_l1_b a b) a.length
   (fun i s => (s.1 = 0 ∨ s.1 = 1) ∧ Lim s.2 ∧ s.2.length = a.length + 1 ∧ val (s.2.take i) + 1000000000 ^ i * s.1 = val (a.take i) + val (b.take i))
   (fun s => (s.1 = 0 ∨ s.1 = 1) ∧ Lim s.2 ∧ s.2.length = a.length + 1 ∧ val (s.2.take a.length) + 1000000000 ^ a.length * s.1 = val (a.take a.length) + val (b.take a.length))
   (fun i s hi hs => by
     obtain ⟨c, out⟩ := s
     obtain ⟨h1, h2, h3, h4⟩ := hs
     simp only at h1 h2 h3 h4
     have ga := ha.getD i
     have gb := hb.getD i
     generalize ht : c + List.getD a i 0 + List.getD b i 0 = t
     refine .inl ⟨(t / 1000000000, List.set out i (t % 1000000000)), ⟨by simp only; omega, h2.set (by omega), by simp [h3], ?_⟩, fun again => ?_⟩
     ·simp only
      rw [val_set_take (by omega), val_take_succ' a i, val_take_succ' b i, Int.pow_succ]
      have hdm : 1000000000 * (t / 1000000000) + t % 1000000000 = t := Int.mul_ediv_add_emod t 1000000000
      have e : (1000000000 : Int) ^ i * (t % 1000000000) + 1000000000 ^ i * 1000000000 * (t / 1000000000) = 1000000000 ^ i * t := by
       rw [Int.mul_assoc, ← Int.mul_add]; congr 1; omega
      have e2 : (1000000000 : Int) ^ i * t = 1000000000 ^ i * c + 1000000000 ^ i * List.getD a i 0 + 1000000000 ^ i * List.getD b i 0 := by
       rw [← ht, Int.mul_add, Int.mul_add]
      omega
     ·unfold f206_l1_b
      show (bif decide ((i : Int) < ofN a.length) then _ else _) = _
      rw [dec_lt hi]
      simp only [cond_true]
      have tt : toN (i : Int) = i := rfl
      rw [tt, gd_true (by omega), gd_true (by omega), wrapI_u32 (n := c + List.getD a i 0) (by omega) (by omega), f206_c2_spec hb (by omega) (by omega), Option.bind_some, ht, gd_true (by omega), gd_true (by omega), gd_true (by omega),
       Int.tdiv_eq_ediv_of_nonneg (by omega), Int.tmod_eq_emod_of_nonneg (by omega), wrapI_u32 (by omega) (by omega), wrap_succ (by omega)])
   (fun s hs => ⟨s, hs, fun again => by unfold f206_l1_b; show (bif decide ((a.length : Int) < ofN a.length) then _ else _) = _; rw [dec_nlt (Nat.le_refl _)]; rfl⟩)
  obtain ⟨r, ⟨h1, h2, h3, h4⟩, h5⟩ := h a.length 0 (2 + a.length + b.length + (List.replicate (a.length + 1) (0 : Int)).length) (0, List.replicate (a.length + 1) 0) (by omega) (by omega) ⟨.inl rfl, lim_zeros _, by simp, by simp [val]⟩
  have h5' : f206_l1 a b (2 + a.length + b.length + (List.replicate (a.length + 1) (0 : Int)).length) ((0 : Int), (0 : Int), List.replicate (a.length + 1) (0 : Int)) = some r := h5
  have tt : toN (ofN a.length) = a.length := rfl
  rw [h5', Option.bind_some, tt, gd_true (by rw [ofN_eq]; omega), gd_true (by rw [ofN_eq]; omega), gd_true (by omega)]
  rw [F120_spec' (h2.set (by omega)) (by unfold small; simp; omega), Option.bind_some]
  have hv : val (List.set r.2 a.length r.1) = val a + val b := by
   have e1 : List.set r.2 a.length r.1 = (List.set r.2 a.length r.1).take (a.length + 1) := (List.take_of_length_le (by simp; omega)).symm
   rw [e1, val_set_take (by omega), h4, List.take_length, List.take_of_length_le (by omega)]
  rw [hv]
 unfold F206 f206_c0
 by_cases hlt : a.length < b.length
 ·rw [show decide (ofN a.length < ofN b.length) = true from decide_eq_true (by rw [ofN_eq, ofN_eq]; omega)]
  simp only [cond_true, Option.bind_some]
  have e : wrapI .i64 (ofN b.length + 1) = ((b.length + 1 : Nat) : Int) := by rw [ofN_eq, wrapI_i64] <;> omega
  have tt : toN ((b.length + 1 : Nat) : Int) = b.length + 1 := rfl
  rw [e, tt, gd_true (by omega), gd_true (by omega), gd_true (by omega), Int.add_comm]
  exact main hb ha sb (by omega)
 ·rw [show decide (ofN a.length < ofN b.length) = false from decide_eq_false (by rw [ofN_eq, ofN_eq]; omega)]
  simp only [cond_false, Option.bind_some]
  have e : wrapI .i64 (ofN a.length + 1) = ((a.length + 1 : Nat) : Int) := by rw [ofN_eq, wrapI_i64] <;> omega
  have tt : toN ((a.length + 1 : Nat) : Int) = a.length + 1 := rfl
  rw [e, tt, gd_true (by omega), gd_true (by omega), gd_true (by omega)]
  exact main ha hb sa (by omega)
theorem f205_c1_spec {b : List Int} (hb : Lim b) {i : Nat} {x : Int} (hx : 999999999 ≤ x ∧ x ≤ 1999999999) : f205_c1 b (i : Int) x (decide ((i : Int) < ofN b.length)) = some (x - List.getD b i 0) := by
 unfold f205_c1
 have hg := hb.getD i
 by_cases h : i < b.length
 ·rw [dec_lt h]
  simp only [cond_true]
  rw [gd_true (by omega), gd_true (by omega)]
  have t : toN (i : Int) = i := rfl
  rw [t, wrapI_u32 (by omega) (by omega)]
 ·rw [dec_nlt (by omega)]
  have : List.getD b i 0 = 0 := by simp [List.getD, List.getElem?_eq_none (show b.length ≤ i by omega)]
  rw [this, Int.sub_zero]
  rfl
theorem F205_spec {a b : List Int} (ha : Lim a) (hb : Lim b) (sa : a.length ≤ 10000000) (hle : val b ≤ val a) : F205 a b = some (limbs (val a - val b).toNat) := by
 have h := loop_ex (fun (i : Nat) (s : Int × List Int) => (s.1, (i : Int), s.2)) (f205_l0_b a b) a.length
  (fun i s => (s.1 = 0 ∨ s.1 = 1) ∧ Lim s.2 ∧ s.2.length = a.length ∧ val (s.2.take i) + val (b.take i) = val (a.take i) + 1000000000 ^ i * s.1)
  (fun r => Lim r ∧ r.length = a.length ∧ ∃ c, 0 ≤ c ∧ val (r.take a.length) + val (b.take a.length) = val (a.take a.length) + 1000000000 ^ a.length * c)
  (fun i s hi hs => by
    obtain ⟨c, out⟩ := s
    obtain ⟨h1, h2, h3, h4⟩ := hs
    simp only at h1 h2 h3 h4
    have ga := ha.getD i
    have gb := hb.getD i
    generalize ht : List.getD a i 0 + 1000000000 - c - List.getD b i 0 = t
    have e0 : (1000000000 : Int) ^ (i + 1) = 1000000000 ^ i * 1000000000 := Int.pow_succ _ _
    have e2 : (1000000000 : Int) ^ i * t = 1000000000 ^ i * List.getD a i 0 + 1000000000 ^ i * 1000000000 - 1000000000 ^ i * c - 1000000000 ^ i * List.getD b i 0 := by
     rw [← ht, Int.mul_sub, Int.mul_sub, Int.mul_add]
    have body : ∀ again, f205_l0_b a b again (c, (i : Int), out) = (bif decide ((1000000000 : Int) ≤ t) then again (0, ((i + 1 : Nat) : Int), List.set out i (t - 1000000000)) else again (1, ((i + 1 : Nat) : Int), List.set out i t)) := by
     intro again
     unfold f205_l0_b
     show (bif decide ((i : Int) < ofN a.length) then _ else _) = _
     rw [dec_lt hi]
     simp only [cond_true]
     have tt : toN (i : Int) = i := rfl
     rw [tt, gd_true (by omega), gd_true (by omega), wrapI_u32 (n := List.getD a i 0 + 1000000000) (by omega) (by omega), wrapI_u32 (n := List.getD a i 0 + 1000000000 - c) (by omega) (by omega), f205_c1_spec hb (by omega), Option.bind_some, ht]
     unfold f205_c2
     by_cases hb' : 1000000000 ≤ t
     ·rw [decide_eq_true hb']
      simp only [cond_true, Option.bind_some]
      rw [gd_true (by omega), gd_true (by omega), gd_true (by omega), wrapI_u32 (by omega) (by omega), wrap_succ (by omega)]
     ·rw [decide_eq_false hb']
      simp only [cond_false, Option.bind_some]
      rw [gd_true (by omega), gd_true (by omega), gd_true (by omega), wrap_succ (by omega)]
    by_cases hb' : 1000000000 ≤ t
    ·refine .inl ⟨(0, List.set out i (t - 1000000000)), ⟨.inl rfl, h2.set (by omega), by simp [h3], ?_⟩, fun again => by rw [body, decide_eq_true hb']; rfl⟩
     simp only
     rw [val_set_take (by omega), val_take_succ' a i, val_take_succ' b i, Int.mul_sub, Int.mul_zero]
     omega
    ·refine .inl ⟨(1, List.set out i t), ⟨.inr rfl, h2.set (by omega), by simp [h3], ?_⟩, fun again => by rw [body, decide_eq_false hb']; rfl⟩
     simp only
     rw [val_set_take (by omega), val_take_succ' a i, val_take_succ' b i, e0]
     omega)
  (fun s hs => ⟨s.2, ⟨hs.2.1, hs.2.2.1, s.1, by rcases hs.1 with h | h <;> omega, hs.2.2.2⟩, fun again => by unfold f205_l0_b; show (bif decide ((a.length : Int) < ofN a.length) then _ else _) = _; rw [dec_nlt (Nat.le_refl _)]; rfl⟩)
 obtain ⟨r, ⟨h1, h2, c, h3, h4⟩, h5⟩ := h a.length 0 (2 + a.length + b.length + (List.replicate a.length (0 : Int)).length) (0, List.replicate a.length 0) (by omega) (by omega) ⟨.inl rfl, lim_zeros _, by simp, by simp [val]⟩
 unfold F205
 have tt : toN (ofN a.length) = a.length := rfl
 have h5' : f205_l0 a b (2 + a.length + b.length + (List.replicate a.length (0 : Int)).length) ((0 : Int), (0 : Int), List.replicate a.length (0 : Int)) = some r := h5
 rw [tt, gd_true (by rw [ofN_eq]; omega), gd_true (by omega), gd_true (by rw [ofN_eq]; omega), h5', Option.bind_some]
 have hva := val_lt ha
 rw [List.take_of_length_le (by omega), List.take_length, val_take_of_lt hb (by omega)] at h4
 have hr := val_lt h1
 rw [h2] at hr
 have hc : c = 0 := by
  rcases Int.lt_or_le 0 c with h | h
  ·have : (1000000000 : Int) ^ a.length * 1 ≤ 1000000000 ^ a.length * c := Int.mul_le_mul_of_nonneg_left (by omega) (Int.le_of_lt (pow_pos' _))
   have := val_nonneg hb
   omega
  ·omega
 subst hc
 rw [F120_spec' h1 (by unfold small; omega), Option.bind_some]
 congr 3
 rw [Int.mul_zero] at h4
 omega
theorem f76_l1_spec {a b : List Int} (ha : Lim a) (hb : Lim b) (sa : a.length ≤ 10000000) (sb : b.length ≤ 10000000) {i : Nat} (hi : i < a.length) (out : List Int) (ho : Lim out) (hlen : i + b.length ≤ out.length) (f : Nat) (hf : b.length < f) :
 ∃ r : Int × List Int, ((0 ≤ r.1 ∧ r.1 < 1000000000) ∧ Lim r.2 ∧ r.2.length = out.length ∧ (∀ j, i + b.length ≤ j → List.getD r.2 j 0 = List.getD out j 0) ∧ val r.2 + 1000000000 ^ (i + b.length) * r.1 = val out + 1000000000 ^ i * (List.getD a i 0 * val b)) ∧
  f76_l1 a b (i : Int) f ((0 : Int), (0 : Int), out) = some r := by
 have h := loop_ex (fun (k : Nat) (s : Int × List Int) => (s.1, (k : Int), s.2)) (f76_l1_b a b (i : Int)) b.length
  (fun k s => (0 ≤ s.1 ∧ s.1 < 1000000000) ∧ Lim s.2 ∧ s.2.length = out.length ∧ (∀ j, i + k ≤ j → List.getD s.2 j 0 = List.getD out j 0) ∧ val s.2 + 1000000000 ^ (i + k) * s.1 = val out + 1000000000 ^ i * (List.getD a i 0 * val (b.take k)))
  (fun r => (0 ≤ r.1 ∧ r.1 < 1000000000) ∧ Lim r.2 ∧ r.2.length = out.length ∧ (∀ j, i + b.length ≤ j → List.getD r.2 j 0 = List.getD out j 0) ∧ val r.2 + 1000000000 ^ (i + b.length) * r.1 = val out + 1000000000 ^ i * (List.getD a i 0 * val b))
  (fun k s hk hs => by
    obtain ⟨c, w⟩ := s
    obtain ⟨h1, h2, h3, h4, h5⟩ := hs
    simp only at h1 h2 h3 h4 h5
    have ga := ha.getD i
    have gb := hb.getD k
    have gw := h2.getD (i + k)
    have hm := digit_mul ga gb
    generalize hx : List.getD a i 0 = x at *
    generalize hy : List.getD b k 0 = y at *
    generalize hz : List.getD w (i + k) 0 = z at *
    generalize ht : c + z + x * y = t
    refine .inl ⟨(t / 1000000000, List.set w (i + k) (t % 1000000000)), ⟨by simp only; omega, h2.set (by omega), by simp [h3], fun j hj => ?_, ?_⟩, fun again => ?_⟩
    ·simp only
     rw [getD_set_other (by omega), h4 j (by omega)]
    ·simp only
     rw [val_set _ _ _ (by omega), hz, val_take_succ' b k, hy]
     have hdm : 1000000000 * (t / 1000000000) + t % 1000000000 = t := Int.mul_ediv_add_emod t 1000000000
     have p1 : (1000000000 : Int) ^ (i + (k + 1)) = 1000000000 ^ (i + k) * 1000000000 := by rw [← Nat.add_assoc, Int.pow_succ]
     have p2 : (1000000000 : Int) ^ (i + k) = 1000000000 ^ i * 1000000000 ^ k := Int.pow_add _ _ _
     have q1 : (1000000000 : Int) ^ (i + k) * (t % 1000000000 - z) + 1000000000 ^ (i + k) * 1000000000 * (t / 1000000000) = 1000000000 ^ (i + k) * (x * y) + 1000000000 ^ (i + k) * c := by
      rw [Int.mul_assoc, ← Int.mul_add, ← Int.mul_add]; congr 1; omega
     have q2 : (1000000000 : Int) ^ i * (x * (val (b.take k) + 1000000000 ^ k * y)) = 1000000000 ^ i * (x * val (b.take k)) + 1000000000 ^ (i + k) * (x * y) := by
      rw [p2, Int.mul_add, Int.mul_add]
      congr 1
      simp only [Int.mul_assoc, Int.mul_left_comm, Int.mul_comm]
     rw [q2, p1]
     omega
    ·unfold f76_l1_b
     show (bif decide ((k : Int) < ofN b.length) then _ else _) = _
     rw [dec_lt hk]
     simp only [cond_true]
     have e1 : wrapI .i64 ((i : Int) + (k : Int)) = ((i + k : Nat) : Int) := by rw [wrapI_i64] <;> omega
     have g1 : (0 : Int) ≤ (k : Int) := by omega
     have g2 : (k : Int) < ((b.length : Nat) : Int) := by omega
     have g3 : (0 : Int) ≤ ((i + k : Nat) : Int) := by omega
     have g4 : ((i + k : Nat) : Int) < ((w.length : Nat) : Int) := by omega
     have g5 : i + k < w.length := by omega
     have g6 : (0 : Int) ≤ (i : Int) := by omega
     have g7 : (i : Int) < ((a.length : Nat) : Int) := by omega
     simp only [e1, toN_eq, Int.toNat_natCast, gd_true g1, gd_true g2, gd_true g3, gd_true g4, gd_true g5, gd_true g6, gd_true g7, hx, hy, hz]
     rw [wrapI_u64 (n := z) (by omega) (by omega), wrapI_u64 (n := x) (by omega) (by omega), wrapI_u64 (n := y) (by omega) (by omega), wrapI_u64 (n := x * y) (by omega) (by omega),
      wrapI_u64 (n := c + z) (by omega) (by omega), wrapI_u64 (n := c + z + x * y) (by omega) (by omega), ht, Int.tdiv_eq_ediv_of_nonneg (by omega), Int.tmod_eq_emod_of_nonneg (by omega), wrapI_u64 (by omega) (by omega), wrapI_u32 (by omega) (by omega), wrap_succ (by omega)])
  (fun s hs => ⟨s, by simpa using hs, fun again => by unfold f76_l1_b; show (bif decide ((b.length : Int) < ofN b.length) then _ else _) = _; rw [dec_nlt (Nat.le_refl _)]; rfl⟩)
 exact h b.length 0 f (0, out) (by omega) hf ⟨by simp, ho, rfl, fun _ _ => rfl, by simp [val]⟩
theorem F76_spec {a b : List Int} (ha : Lim a) (hb : Lim b) (sa : a.length ≤ 10000000) (sb : b.length ≤ 10000000) : F76 a b = some (limbs (val a * val b).toNat) := by
 have h := loop_ex (fun (i : Nat) (s : List Int) => ((i : Int), s)) (f76_l0_b a b) a.length
  (fun i s => Lim s ∧ s.length = a.length + b.length ∧ (∀ j, i + b.length ≤ j → List.getD s j 0 = 0) ∧ val s = val (a.take i) * val b)
  (fun r => Lim r ∧ r.length = a.length + b.length ∧ val r = val a * val b)
  (fun i s hi hs => by
    obtain ⟨h1, h2, h3, h4⟩ := hs
    obtain ⟨r, ⟨kc1, kc2, kc3, kc4, k5⟩, k6⟩ := f76_l1_spec ha hb sa sb hi s h1 (by omega) (2 + a.length + b.length + s.length) (by omega)
    refine .inl ⟨List.set r.2 (i + b.length) r.1, ⟨kc2.set kc1, by simp; omega, fun j hj => ?_, ?_⟩, fun again => ?_⟩
    ·rw [getD_set_other (by omega), kc4 j (by omega), h3 j (by omega)]
    ·have hz0 : List.getD r.2 (i + b.length) 0 = 0 := by rw [kc4 _ (Nat.le_refl _), h3 _ (by omega)]
     rw [val_set _ _ _ (by omega), hz0, val_take_succ' a i, Int.sub_zero, k5, h4, Int.add_mul, Int.mul_assoc]
    ·unfold f76_l0_b
     show (bif decide ((i : Int) < ofN a.length) then _ else _) = _
     rw [dec_lt hi]
     simp only [cond_true]
     rw [k6, Option.bind_some]
     have e : wrapI .i64 ((i : Int) + ofN b.length) = ((i + b.length : Nat) : Int) := by rw [ofN_eq, wrapI_i64] <;> omega
     have tt : toN ((i + b.length : Nat) : Int) = i + b.length := rfl
     rw [e, tt, gd_true (by omega), gd_true (by omega), gd_true (by omega), wrapI_u32 (by omega) (by omega), wrap_succ (by omega)])
  (fun s hs => ⟨s, ⟨hs.1, hs.2.1, by rw [hs.2.2.2, List.take_length]⟩, fun again => by unfold f76_l0_b; show (bif decide ((a.length : Int) < ofN a.length) then _ else _) = _; rw [dec_nlt (Nat.le_refl _)]; rfl⟩)
 obtain ⟨r, ⟨h1, h2, h3⟩, h4⟩ := h a.length 0 (2 + a.length + b.length + (List.replicate (a.length + b.length) (0 : Int)).length) (List.replicate (a.length + b.length) 0) (by omega) (by omega)
  ⟨lim_zeros _, by simp, fun j _ => by simp [List.getD, List.getElem?_replicate]; split <;> rfl, by rw [val_zeros]; simp [val]⟩
 unfold F76
 have e : wrapI .i64 (ofN a.length + ofN b.length) = ((a.length + b.length : Nat) : Int) := by rw [ofN_eq, ofN_eq, wrapI_i64] <;> omega
 have tt : toN ((a.length + b.length : Nat) : Int) = a.length + b.length := rfl
 have h4' : f76_l0 a b (2 + a.length + b.length + (List.replicate (a.length + b.length) (0 : Int)).length) ((0 : Int), List.replicate (a.length + b.length) (0 : Int)) = some r := h4
 rw [e, tt, gd_true (by omega), gd_true (by omega), gd_true (by omega), h4', Option.bind_some, F120_spec' h1 (by unfold small; omega), Option.bind_some, h3]
theorem limbs_small {n : Nat} (h : (limbs n).length ≤ 2000) : small (limbs n) := by unfold small; omega
theorem F169_spec {x y : Int} (hx : bd 1000 x) (hy : bd 1000 y) : F169 (enc x) (enc y) = some (enc (x + y)) := by
 have hx' := hx
 have hy' := hy
 unfold bd at hx hy
 have len : ∀ n : Nat, (n : Int) ≤ x.natAbs + y.natAbs → (limbs n).length ≤ 1001 := by
  intro n hn
  refine limbs_len.2 ?_
  have h1 := limbs_len.1 hx
  have h2 := limbs_len.1 hy
  have : (1000000000 : Int) ^ 1001 = 1000000000 ^ 1000 * 1000000000 := Int.pow_succ _ _
  generalize (1000000000 : Int) ^ 1000 = P at *
  rw [this]
  omega
 unfold F169
 show (bif (decide (x < 0) == decide (y < 0)) then ((F206 (limbs x.natAbs) (limbs y.natAbs)).bind fun y1 => (F75 (decide (x < 0)) y1).bind fun y2 => some y2) else ((F74 (limbs x.natAbs) (limbs y.natAbs)).bind fun y3 => (bif (decide ((0 : Int) ≤ y3)) then
  ((F205 (limbs x.natAbs) (limbs y.natAbs)).bind fun y4 => (F75 (decide (x < 0)) y4).bind fun y5 => some y5) else ((F205 (limbs y.natAbs) (limbs x.natAbs)).bind fun y6 => (F75 (decide (y < 0)) y6).bind fun y7 => some y7)))) = _
 by_cases hs : (x < 0) = (y < 0)
 ·have : (decide (x < 0) == decide (y < 0)) = true := by simp [hs]
  rw [this]
  simp only [cond_true]
  rw [F206_spec (limbs_lim _) (limbs_lim _) (by omega) (by omega), Option.bind_some, limbs_val, limbs_val]
  have e : ((x.natAbs : Int) + (y.natAbs : Int)).toNat = x.natAbs + y.natAbs := by omega
  rw [e, F75_spec (limbs_lim _) (limbs_small (by have := len (x.natAbs + y.natAbs) (by omega); omega)), Option.bind_some, limbs_val]
  by_cases h1 : x < 0
  ·have h2 : y < 0 := by rw [← hs]; exact h1
   rw [decide_eq_true h1]
   simp only [cond_true]
   rw [show -((x.natAbs + y.natAbs : Nat) : Int) = x + y by omega]
  ·have h2 : ¬ y < 0 := by rw [← hs]; exact h1
   rw [decide_eq_false h1]
   simp only [cond_false]
   rw [show ((x.natAbs + y.natAbs : Nat) : Int) = x + y by omega]
 ·have hne : (decide (x < 0) == decide (y < 0)) = false := by
   by_cases h1 : x < 0 <;> by_cases h2 : y < 0 <;> simp_all
  rw [hne]
  simp only [cond_false]
  rw [F74_spec' _ _ (by omega) (by omega), Option.bind_some]
  by_cases hge : y.natAbs ≤ x.natAbs
  ·have : decide ((0 : Int) ≤ cmpI (x.natAbs : Int) (y.natAbs : Int)) = true := by
    unfold cmpI
    rw [if_neg (by omega)]
    split <;> rfl
   rw [this]
   simp only [cond_true]
   rw [F205_spec (limbs_lim _) (limbs_lim _) (by omega) (by rw [limbs_val, limbs_val]; omega), Option.bind_some, limbs_val, limbs_val]
   have e : ((x.natAbs : Int) - (y.natAbs : Int)).toNat = x.natAbs - y.natAbs := by omega
   rw [e, F75_spec (limbs_lim _) (limbs_small (by have := len (x.natAbs - y.natAbs) (by omega); omega)), Option.bind_some, limbs_val]
   by_cases h1 : x < 0
   ·rw [decide_eq_true h1]
    simp only [cond_true]
    rw [show -((x.natAbs - y.natAbs : Nat) : Int) = x + y by
     have h2 : ¬ y < 0 := fun h2 => hs (by simp [h1, h2])
     omega]
   ·rw [decide_eq_false h1]
    simp only [cond_false]
    rw [show ((x.natAbs - y.natAbs : Nat) : Int) = x + y by
     have h2 : y < 0 := by
      rcases Int.lt_or_le y 0 with h2 | h2
      ·exact h2
      ·exact absurd (by simp [h1]; omega) hs
     omega]
  ·have : decide ((0 : Int) ≤ cmpI (x.natAbs : Int) (y.natAbs : Int)) = false := by
    unfold cmpI
    rw [if_pos (by omega)]
    rfl
   rw [this]
   simp only [cond_false]
   rw [F205_spec (limbs_lim _) (limbs_lim _) (by omega) (by rw [limbs_val, limbs_val]; omega), Option.bind_some, limbs_val, limbs_val]
   have e : ((y.natAbs : Int) - (x.natAbs : Int)).toNat = y.natAbs - x.natAbs := by omega
   rw [e, F75_spec (limbs_lim _) (limbs_small (by have := len (y.natAbs - x.natAbs) (by omega); omega)), Option.bind_some, limbs_val]
   by_cases h1 : y < 0
   ·rw [decide_eq_true h1]
    simp only [cond_true]
    rw [show -((y.natAbs - x.natAbs : Nat) : Int) = x + y by
     have h2 : ¬ x < 0 := fun h2 => hs (by simp [h1, h2])
     omega]
   ·rw [decide_eq_false h1]
    simp only [cond_false]
    rw [show ((y.natAbs - x.natAbs : Nat) : Int) = x + y by
     have h2 : x < 0 := by
      rcases Int.lt_or_le x 0 with h2 | h2
      ·exact h2
      ·exact absurd (by simp [h1]; omega) hs
     omega]
theorem F48_spec' {x y : Int} (hx : bd 1000 x) (hy : bd 1000 y) : F48 (enc x) (enc y) = some (enc (x * y)) := by
 have hm := bd_mul hx hy
 unfold bd at hx hy hm
 unfold F48
 show ((F76 (limbs x.natAbs) (limbs y.natAbs)).bind fun y1 => (F75 (!(decide (x < 0) == decide (y < 0))) y1).bind fun y2 => some y2) = _
 rw [F76_spec (limbs_lim _) (limbs_lim _) (by omega) (by omega), Option.bind_some, limbs_val, limbs_val]
 have e : ((x.natAbs : Int) * (y.natAbs : Int)).toNat = (x * y).natAbs := by rw [← Int.natCast_mul, Int.toNat_natCast, Int.natAbs_mul]
 rw [e, F75_spec (limbs_lim _) (limbs_small hm), Option.bind_some, limbs_val]
 congr 2
 by_cases h1 : x < 0 <;> by_cases h2 : y < 0
 ·rw [decide_eq_true h1, decide_eq_true h2]
  have := Int.mul_pos_of_neg_of_neg h1 h2
  show (((x * y).natAbs : Nat) : Int) = _
  omega
 ·rw [decide_eq_true h1, decide_eq_false h2]
  have := Int.mul_nonpos_of_nonpos_of_nonneg (show x ≤ 0 by omega) (show 0 ≤ y by omega)
  show -(((x * y).natAbs : Nat) : Int) = _
  omega
 ·rw [decide_eq_false h1, decide_eq_true h2]
  have := Int.mul_nonpos_of_nonneg_of_nonpos (show 0 ≤ x by omega) (show y ≤ 0 by omega)
  show -(((x * y).natAbs : Nat) : Int) = _
  omega
 ·rw [decide_eq_false h1, decide_eq_false h2]
  have := Int.mul_nonneg (show 0 ≤ x by omega) (show 0 ≤ y by omega)
  show (((x * y).natAbs : Nat) : Int) = _
  omega
theorem F204_spec {m : Nat} {d : Nat} (hm : (limbs m).length ≤ 10000) (hd : d < 1000000000) : F204 (limbs m) (d : Int) = some (limbs (m * d)) := by
 unfold F204
 have hl : Lim [(d : Int)] := Lim.one (by omega)
 rw [F120_spec' hl (by unfold small; simp), Option.bind_some]
 have e : (val [(d : Int)]).toNat = d := by simp [val]
 have h1 : (limbs d).length ≤ 1 := limbs_len.2 (by rw [Int.pow_one]; omega)
 rw [e, F76_spec (limbs_lim _) (limbs_lim _) (by omega) (by omega), Option.bind_some, limbs_val, limbs_val]
 congr 2
theorem f166_l4_spec {V R q : Nat} (hV : (limbs V).length ≤ 3000) (hR : (limbs R).length ≤ 3000) (h1 : q * V ≤ R) (h2 : R < (q + 1) * V) : ∀ (k f : Nat), k < f → q + k < 1000000000 → (limbs ((q + k) * V)).length ≤ 5000 →
 f166_l4 (limbs V) (limbs R) f (((q + k : Nat) : Int), limbs ((q + k) * V)) = some (((q : Nat) : Int), limbs (q * V)) := by
 intro k
 induction k with
 | zero =>
   intro f hf _ hl
   obtain ⟨f, rfl⟩ : ∃ g, f = g + 1 := ⟨f - 1, by omega⟩
   have step : f166_l4 (limbs V) (limbs R) (f + 1) (((q + 0 : Nat) : Int), limbs ((q + 0) * V)) = f166_l4_b (limbs V) (limbs R) (f166_l4 (limbs V) (limbs R) f) (((q + 0 : Nat) : Int), limbs ((q + 0) * V)) := rfl
   rw [step]
   unfold f166_l4_b
   rw [Nat.add_zero] at hl ⊢
   show ((F74 (limbs (q * V)) (limbs R)).bind _) = _
   rw [F74_spec' _ _ (by omega) (by omega), Option.bind_some]
   have : decide ((0 : Int) < cmpI ((q * V : Nat) : Int) (R : Int)) = false := by
    unfold cmpI
    split
    ·rfl
    ·rw [if_neg (by omega)]; rfl
   rw [this]
   rfl
 | succ k ih =>
   intro f hf hB hl
   obtain ⟨f, rfl⟩ : ∃ g, f = g + 1 := ⟨f - 1, by omega⟩
   have step : f166_l4 (limbs V) (limbs R) (f + 1) (((q + (k + 1) : Nat) : Int), limbs ((q + (k + 1)) * V)) = f166_l4_b (limbs V) (limbs R) (f166_l4 (limbs V) (limbs R) f) (((q + (k + 1) : Nat) : Int), limbs ((q + (k + 1)) * V)) := rfl
   rw [step]
   unfold f166_l4_b
   show ((F74 (limbs ((q + (k + 1)) * V)) (limbs R)).bind _) = _
   rw [F74_spec' _ _ (by omega) (by omega), Option.bind_some]
   have hgt : R < (q + (k + 1)) * V := Nat.lt_of_lt_of_le h2 (Nat.mul_le_mul_right V (by omega))
   have : decide ((0 : Int) < cmpI (((q + (k + 1)) * V : Nat) : Int) (R : Int)) = true := by
    unfold cmpI
    rw [if_neg (by omega), if_pos (by omega)]
    rfl
   rw [this]
   have e0 : (q + (k + 1)) * V = (q + k) * V + V := by rw [show q + (k + 1) = (q + k) + 1 by omega, Nat.add_mul, Nat.one_mul]
   simp only [cond_true]
   rw [F205_spec (limbs_lim _) (limbs_lim _) (by omega) (by rw [limbs_val, limbs_val, e0]; omega), Option.bind_some, limbs_val, limbs_val]
   have e1 : ((((q + (k + 1)) * V : Nat) : Int) - (V : Int)).toNat = (q + k) * V := by rw [e0]; omega
   have e2 : wrapI .u64 (((q + (k + 1) : Nat) : Int) - 1) = ((q + k : Nat) : Int) := by rw [wrapI_u64] <;> omega
   rw [e1, e2]
   exact ih f (by omega) (by omega) (Nat.le_trans (limbs_le (Nat.mul_le_mul_right V (by omega))) hl)
theorem est_spec {V R top high P : Nat} (hP : 0 < P) (htop : 500000000 ≤ top) (h1 : top * P ≤ V) (h2 : V < (top + 1) * P) (h3 : high * P ≤ R) (h4 : R < (high + 1) * P) (h5 : R < 1000000000 * V) :
 ∃ k, k ≤ 2 ∧ min (high / top) 999999999 = R / V + k := by
 have hV : 0 < V := by
  have : 0 < top * P := Nat.mul_pos (by omega) hP
  omega
 have hq1 : R / V * V ≤ R := Nat.div_mul_le_self _ _
 have hq2 : R < (R / V + 1) * V := Nat.lt_mul_of_div_lt (Nat.lt_succ_self _) hV
 generalize R / V = q at *
 have hqB : q ≤ 999999999 := by
  have : q * V < 1000000000 * V := by omega
  have := Nat.lt_of_mul_lt_mul_right this
  omega
 have ha : q ≤ high / top := by
  refine (Nat.le_div_iff_mul_le (by omega)).2 ?_
  have h6 : q * (top * P) ≤ q * V := Nat.mul_le_mul_left q h1
  have h7 : q * top * P < (high + 1) * P := by rw [Nat.mul_assoc]; omega
  have := Nat.lt_of_mul_lt_mul_right h7
  omega
 have hb : high / top ≤ q + 2 := by
  have h8 : high / top < q + 3 := by
   refine (Nat.div_lt_iff_lt_mul (by omega)).2 ?_
   rcases Nat.lt_or_ge high ((q + 3) * top) with h | h
   ·exact h
   ·exfalso
    have h9 : (q + 3) * top * P ≤ high * P := Nat.mul_le_mul_right P h
    have h10 : (q + 1) * V < (q + 1) * ((top + 1) * P) := Nat.mul_lt_mul_of_pos_left h2 (by omega)
    have h11 : (q + 3) * top * P < (q + 1) * (top + 1) * P := by rw [Nat.mul_assoc (q + 1)]; omega
    have h12 := Nat.lt_of_mul_lt_mul_right h11
    rw [Nat.add_mul, Nat.mul_add, Nat.add_mul] at h12
    omega
  omega
 exact ⟨min (high / top) 999999999 - q, by omega, by omega⟩
def divG (a0 a1 : List Int) : Option ((List Int) × (List Int)) :=
 gd (0 ≤ (wrapI .i64 ((ofN (List.length a1)) - (1 : Int)))) <|
 gd ((wrapI .i64 ((ofN (List.length a1)) - (1 : Int))) < ((List.length a1 : Nat) : Int)) <|
 gd ((wrapI .u64 ((wrapI .u64 (List.getD a1 (toN (wrapI .i64 ((ofN (List.length a1)) - (1 : Int)))) (0 : Int))) + (1 : Int))) ≠ 0) <|
 (F204 a1 (wrapI .u32 (wrapI .u64 (Int.tdiv (1000000000 : Int) (wrapI .u64 ((wrapI .u64 (List.getD a1 (toN (wrapI .i64 ((ofN (List.length a1)) - (1 : Int)))) (0 : Int))) + (1 : Int))))))).bind fun y5 =>
 gd (0 ≤ (wrapI .i64 ((ofN (List.length y5)) - (1 : Int)))) <|
 gd ((wrapI .i64 ((ofN (List.length y5)) - (1 : Int))) < ((List.length y5 : Nat) : Int)) <|
 gd (0 ≤ (wrapI .i64 ((ofN (List.length a0)) + (1 : Int)))) <|
 gd ((wrapI .i64 ((ofN (List.length a0)) + (1 : Int))) ≤ (wrapI .i64 ((ofN (List.length a0)) + (1 : Int)))) <|
 gd ((wrapI .i64 ((ofN (List.length a0)) + (1 : Int))) ≤ 1073741824) <|
 (F204 a0 (wrapI .u32 (wrapI .u64 (Int.tdiv (1000000000 : Int) (wrapI .u64 ((wrapI .u64 (List.getD a1 (toN (wrapI .i64 ((ofN (List.length a1)) - (1 : Int)))) (0 : Int))) + (1 : Int))))))).bind fun y6 =>
 gd (0 < List.length (List.replicate (toN (wrapI .i64 ((ofN (List.length a0)) + (1 : Int)))) (0 : Int))) <|
 gd (0 ≤ (ofN (List.length y6))) <|
 gd ((ofN (List.length y6)) ≤ ((List.length (List.replicate (toN (wrapI .i64 ((ofN (List.length a0)) + (1 : Int)))) (0 : Int)) : Nat) : Int)) <|
 ((f166_l0 y5 (wrapI .u64 (List.getD y5 (toN (wrapI .i64 ((ofN (List.length y5)) - (1 : Int)))) (0 : Int))) (Int.toNat 0) ((Int.toNat (ofN (List.length y6))) - (Int.toNat 0)) y6 (2 + List.length y5 + List.length y6 + List.length ([] : List Int) + List.length (List.replicate (toN (wrapI .i64 ((ofN (List.length a0)) + (1 : Int)))) (0 : Int))) (([] : List Int), (wrapI .i64 ((ofN (List.length y6)) - (1 : Int))), (List.replicate (toN (wrapI .i64 ((ofN (List.length a0)) + (1 : Int)))) (0 : Int)))).bind fun o126 =>
 gd (0 ≤ (ofN (List.length o126.1))) <|
 gd ((ofN (List.length o126.1)) ≤ (ofN (List.length o126.1))) <|
 gd ((ofN (List.length o126.1)) ≤ 1073741824) <|
 ((f166_l5 (wrapI .u32 (wrapI .u64 (Int.tdiv (1000000000 : Int) (wrapI .u64 ((wrapI .u64 (List.getD a1 (toN (wrapI .i64 ((ofN (List.length a1)) - (1 : Int)))) (0 : Int))) + (1 : Int)))))) o126.1 (2 + List.length o126.1 + List.length o126.2 + List.length (List.replicate (toN (ofN (List.length o126.1))) (0 : Int))) ((0 : Int), (wrapI .i64 ((ofN (List.length o126.1)) - (1 : Int))), (List.replicate (toN (ofN (List.length o126.1))) (0 : Int)))).bind fun o135 =>
 (F120 (List.take ((Int.toNat (ofN (List.length y6))) - (Int.toNat 0)) (List.drop (Int.toNat 0) o126.2))).bind fun y136 =>
 (F120 o135).bind fun y137 =>
 some (y136, y137)))
theorem F166_eq (a0 a1 : List Int) : F166 a0 a1 = (bif (decide ((ofN (List.length a0)) ≤ (2 : Int))) then (bif (decide ((ofN (List.length a1)) ≤ (2 : Int))) then
 (F167 a0).bind fun y1 =>
 (F167 a1).bind fun y2 =>
 gd (y2 ≠ 0) <|
 (F80 (wrapI .u64 (Int.tdiv y1 y2))).bind fun y3 =>
 gd (y2 ≠ 0) <|
 (F80 (Int.tmod y1 y2)).bind fun y4 =>
 some (y3, y4)
 else divG a0 a1) else divG a0 a1) := by kernel_rfl
theorem mod_of {a b c r : Nat} (h : a = c * b + r) (hr : r < b) : a / b = c ∧ a % b = r := by
 subst h
 constructor
 ·rw [Nat.add_comm, Nat.add_mul_div_right _ _ (by omega), Nat.div_eq_of_lt hr, Nat.zero_add]
 ·rw [Nat.add_comm, Nat.add_mul_mod_self_right, Nat.mod_eq_of_lt hr]
theorem getD_beyond {l : List Int} {i : Nat} (h : l.length ≤ i) : List.getD l i 0 = 0 := by simp [List.getD, List.getElem?_eq_none h]
theorem f166_l0_spec {V : Nat} {nV : Nat} (hnV : (limbs V).length = nV) (hn1 : 1 ≤ nV) (hn2 : nV ≤ 1500) {top : Nat} (htop : List.getD (limbs V) (nV - 1) 0 = (top : Int)) (ht5 : 500000000 ≤ top) {ul : List Int} (hul : Lim ul) (hu2 : ul.length ≤ 2500) (x12 : Nat) (hx12 : x12 = ul.length) :
 ∀ (t f : Nat) (R : Nat) (out : List Int), t < f → t ≤ ul.length → R < V → Lim out → ul.length ≤ out.length → out.length ≤ 3000 →
 ∃ R2 out', f166_l0 (limbs V) (top : Int) 0 x12 ul f (limbs R, (t : Int) - 1, out) = some (limbs R2, out') ∧ R2 < V ∧ Lim out' ∧ out'.length = out.length ∧
  (R2 : Int) + (V : Int) * val out' = val (ul.take t) + 1000000000 ^ t * ((R : Int) + (V : Int) * val (out.drop t)) := by
 intro t
 induction t with
 | zero =>
   intro f R out hf _ hR ho _ _
   obtain ⟨f, rfl⟩ : ∃ g, f = g + 1 := ⟨f - 1, by omega⟩
   exact ⟨R, out, rfl, hR, ho, rfl, by simp [val]⟩
 | succ k ih =>
   intro f R out hf hk hR ho hlo hl3
   obtain ⟨f, rfl⟩ : ∃ g, f = g + 1 := ⟨f - 1, by omega⟩
   have hV0 : 0 < V := by omega
   have hVB := limbs_len.1 (show (limbs V).length ≤ nV by omega)
   have gu := hul.getD k
   have hRl : (limbs R).length ≤ nV := by rw [← hnV]; exact limbs_le (by omega)
   generalize hud : List.getD ul k 0 = uk at *
   obtain ⟨un, rfl⟩ : ∃ un : Nat, uk = (un : Int) := ⟨uk.toNat, by omega⟩
   -- the rest with the next limb
   have hlimr : Lim ([(un : Int)] ++ limbs R) := (Lim.one gu).append (limbs_lim R)
   have hvr : val ([(un : Int)] ++ limbs R) = ((un + 1000000000 * R : Nat) : Int) := by
    show (un : Int) + 1000000000 * val (limbs R) = _
    rw [limbs_val]; omega
   generalize hR' : un + 1000000000 * R = R' at *
   have hR'V : R' < 1000000000 * V := by omega
   have hP1 : (1000000000 : Int) ^ (nV + 1) = 1000000000 ^ nV * 1000000000 := Int.pow_succ _ _
   have hR'l : (limbs R').length ≤ nV + 1 := limbs_len.2 (by rw [hP1]; omega)
   -- the high limbs
   have hw0 := (limbs_lim R').getD nV
   have hw1 := (limbs_lim R').getD (nV - 1)
   generalize hg0 : List.getD (limbs R') nV 0 = w0 at *
   generalize hg1 : List.getD (limbs R') (nV - 1) 0 = w1 at *
   have c1 : f166_c1 (limbs V) (limbs R') 0 (decide (ofN (limbs V).length < ofN (limbs R').length)) = some (w0 * 1000000000) := by
    unfold f166_c1
    rw [hnV]
    by_cases h : nV < (limbs R').length
    ·rw [show decide (ofN nV < ofN (limbs R').length) = true from decide_eq_true (by rw [ofN_eq, ofN_eq]; omega)]
     simp only [cond_true]
     have tt : toN (ofN nV) = nV := rfl
     rw [tt, hg0, gd_true (by rw [ofN_eq]; omega), gd_true (by rw [ofN_eq]; omega), wrapI_u64 (n := w0) (by omega) (by omega), wrapI_u64 (by omega) (by omega)]
    ·rw [show decide (ofN nV < ofN (limbs R').length) = false from decide_eq_false (by rw [ofN_eq, ofN_eq]; omega)]
     have : w0 = 0 := by rw [← hg0]; exact getD_beyond (by omega)
     rw [this]; rfl
   have c2 : f166_c2 (limbs V) (limbs R') (w0 * 1000000000) (decide (ofN (limbs V).length ≤ ofN (limbs R').length)) = some (w0 * 1000000000 + w1) := by
    unfold f166_c2
    rw [hnV]
    by_cases h : nV ≤ (limbs R').length
    ·rw [show decide (ofN nV ≤ ofN (limbs R').length) = true from decide_eq_true (by rw [ofN_eq, ofN_eq]; omega)]
     simp only [cond_true]
     have e : wrapI .i64 (ofN nV - 1) = ((nV - 1 : Nat) : Int) := by rw [ofN_eq, wrapI_i64] <;> omega
     have tt : toN ((nV - 1 : Nat) : Int) = nV - 1 := rfl
     rw [e, tt, hg1, gd_true (by omega), gd_true (by omega), wrapI_u64 (n := w1) (by omega) (by omega), wrapI_u64 (by omega) (by omega)]
    ·rw [show decide (ofN nV ≤ ofN (limbs R').length) = false from decide_eq_false (by rw [ofN_eq, ofN_eq]; omega)]
     have h0 : w0 = 0 := by rw [← hg0]; exact getD_beyond (by omega)
     have h1 : w1 = 0 := by rw [← hg1]; exact getD_beyond (by omega)
     rw [h0, h1]; rfl
   -- what they say of the value
   have hPp := pow_pos' (nV - 1)
   have hPn : (1000000000 : Int) ^ nV = 1000000000 ^ (nV - 1) * 1000000000 := by rw [← Int.pow_succ]; congr 1; omega
   have hsplit : (R' : Int) = val ((limbs R').take (nV - 1)) + 1000000000 ^ (nV - 1) * (w0 * 1000000000 + w1) := by
    have e1 : val ((limbs R').take (nV + 1)) = (R' : Int) := by rw [List.take_of_length_le (by omega), limbs_val]
    rw [← e1, val_take_succ' _ nV, hg0]
    have e2 := val_take_succ' (limbs R') (nV - 1)
    rw [show nV - 1 + 1 = nV by omega, hg1] at e2
    rw [e2, hPn, Int.mul_add]
    have : (1000000000 : Int) ^ (nV - 1) * 1000000000 * w0 = 1000000000 ^ (nV - 1) * (w0 * 1000000000) := by rw [Int.mul_assoc, Int.mul_comm 1000000000 w0]
    omega
   have hlow : 0 ≤ val ((limbs R').take (nV - 1)) ∧ val ((limbs R').take (nV - 1)) < 1000000000 ^ (nV - 1) := by
    have l1 := (limbs_lim R').take (nV - 1)
    refine ⟨val_nonneg l1, ?_⟩
    have h1 := val_lt l1
    have h2 : ((limbs R').take (nV - 1)).length ≤ nV - 1 := by simp; omega
    have h5 : (1000000000 : Nat) ^ ((limbs R').take (nV - 1)).length ≤ 1000000000 ^ (nV - 1) := Nat.pow_le_pow_right (by decide) h2
    have h6 : (((1000000000 : Nat) ^ ((limbs R').take (nV - 1)).length : Nat) : Int) ≤ (((1000000000 : Nat) ^ (nV - 1) : Nat) : Int) := Int.ofNat_le.2 h5
    rw [Int.natCast_pow, Int.natCast_pow] at h6
    have h7 : ((1000000000 : Nat) : Int) = 1000000000 := rfl
    rw [h7] at h6
    omega
   have hVsplit : (V : Int) = val ((limbs V).take (nV - 1)) + 1000000000 ^ (nV - 1) * (top : Int) := by
    have e2 := val_take_succ' (limbs V) (nV - 1)
    rw [show nV - 1 + 1 = nV by omega, htop, List.take_of_length_le (by omega), limbs_val] at e2
    exact e2
   have hVlow := val_take_lt (limbs_lim V) (k := nV - 1) (by omega)
   -- in natural numbers
   obtain ⟨high, hhigh⟩ : ∃ high : Nat, w0 * 1000000000 + w1 = (high : Int) := ⟨(w0 * 1000000000 + w1).toNat, by omega⟩
   have hpN : (((1000000000 : Nat) ^ (nV - 1) : Nat) : Int) = (1000000000 : Int) ^ (nV - 1) := by rw [Int.natCast_pow]; rfl
   rw [hhigh] at hsplit
   generalize (1000000000 : Int) ^ (nV - 1) = PI at *
   generalize (1000000000 : Nat) ^ (nV - 1) = PN at *
   subst hpN
   have n1 : top * PN ≤ V := by
    have : ((top * PN : Nat) : Int) ≤ (V : Int) := by rw [Int.natCast_mul, Int.mul_comm]; omega
    omega
   have n2 : V < (top + 1) * PN := by
    have : (V : Int) < (((top + 1) * PN : Nat) : Int) := by
     rw [Int.natCast_mul, Int.natCast_add, Int.add_mul, Int.mul_comm (top : Int)]; omega
    omega
   have n3 : high * PN ≤ R' := by
    have : ((high * PN : Nat) : Int) ≤ (R' : Int) := by rw [Int.natCast_mul, Int.mul_comm]; omega
    omega
   have n4 : R' < (high + 1) * PN := by
    have : (R' : Int) < (((high + 1) * PN : Nat) : Int) := by
     rw [Int.natCast_mul, Int.natCast_add, Int.add_mul, Int.mul_comm (high : Int)]; omega
    omega
   obtain ⟨e, he2, heq⟩ := est_spec (by omega) ht5 n1 n2 n3 n4 hR'V
   have hq1 : R' / V * V ≤ R' := Nat.div_mul_le_self _ _
   have hq2 : R' < (R' / V + 1) * V := Nat.lt_mul_of_div_lt (Nat.lt_succ_self _) hV0
   generalize hqd : R' / V = q at *
   have hqe : q + e < 1000000000 := by omega
   have hdig : f166_c3 (wrapI .u64 (Int.tdiv (high : Int) (top : Int))) (decide ((999999999 : Int) < wrapI .u64 (Int.tdiv (high : Int) (top : Int)))) = some (((q + e : Nat) : Int)) := by
    have ed : Int.tdiv (high : Int) (top : Int) = ((high / top : Nat) : Int) := by rw [Int.tdiv_eq_ediv_of_nonneg (by omega)]; rfl
    have hle : high / top ≤ high := Nat.div_le_self _ _
    rw [ed, wrapI_u64 (by omega) (by omega)]
    unfold f166_c3
    rw [← heq]
    by_cases h : 999999999 < high / top
    ·rw [show decide ((999999999 : Int) < ((high / top : Nat) : Int)) = true from decide_eq_true (by omega)]
     simp only [cond_true]
     congr 1; omega
    ·rw [show decide ((999999999 : Int) < ((high / top : Nat) : Int)) = false from decide_eq_false (by omega)]
     simp only [cond_false]
     congr 2; omega
   have hprod : (limbs ((q + e) * V)).length ≤ nV + 2 := by
    refine limbs_len.2 ?_
    have h1 : (q + e) * V ≤ 1000000000 * V := Nat.mul_le_mul_right V (by omega)
    have h2 : (1000000000 : Int) ^ (nV + 2) = 1000000000 ^ nV * 1000000000 * 1000000000 := by rw [Int.pow_succ, Int.pow_succ]
    omega
   have hVe : V * (q + e) = (q + e) * V := Nat.mul_comm _ _
   -- the step
   have hrest : (((R' : Int) - ((q * V : Nat) : Int)).toNat) = R' - q * V := by omega
   have hR2 : R' - q * V < V := by rw [Nat.add_mul, Nat.one_mul] at hq2; omega
   obtain ⟨R2, out', i1, i2, i3, i4, i5⟩ := ih f (R' - q * V) (List.set out k (q : Int)) (by omega) (by omega) hR2 (ho.set (by omega)) (by simpa using hlo) (by simpa using hl3)
   refine ⟨R2, out', ?_, i2, i3, by rw [i4, List.length_set], ?_⟩
   ·have step : f166_l0 (limbs V) (top : Int) 0 x12 ul (f + 1) (limbs R, ((k + 1 : Nat) : Int) - 1, out) = f166_l0_b (limbs V) (top : Int) 0 x12 ul (f166_l0 (limbs V) (top : Int) 0 x12 ul f) (limbs R, ((k + 1 : Nat) : Int) - 1, out) := rfl
    rw [step, show ((k + 1 : Nat) : Int) - 1 = (k : Int) by omega]
    unfold f166_l0_b
    show (bif decide ((0 : Int) ≤ (k : Int)) then _ else _) = _
    rw [decide_eq_true (show (0 : Int) ≤ (k : Int) by omega)]
    simp only [cond_true]
    have tt : toN (k : Int) = k := rfl
    rw [tt, hud, gd_true (by omega), gd_true (by omega), gd_true (by simp; omega), F120_spec' hlimr (by unfold small; simp; omega), Option.bind_some, hvr, Int.toNat_natCast, c1, Option.bind_some, c2, Option.bind_some, gd_true (by omega), hhigh, hdig, Option.bind_some,
     wrapI_u32 (n := ((q + e : Nat) : Int)) (by omega) (by omega), F204_spec (by omega) (by omega), Option.bind_some, hVe]
    rw [f166_l4_spec (V := V) (R := R') (q := q) (by omega) (by omega) hq1 hq2 e _ (by omega) hqe (by omega), Option.bind_some]
    simp only
    rw [F205_spec (limbs_lim _) (limbs_lim _) (by omega) (by rw [limbs_val, limbs_val]; omega), Option.bind_some, limbs_val, limbs_val, hrest, gd_true (by omega), gd_true (by omega), gd_true (by omega),
     wrapI_u32 (n := (q : Int)) (by omega) (by omega), wrapI_i64 (n := (k : Int) - 1) (by omega) (by omega), Nat.zero_add]
    exact i1
   ·rw [i5, drop_set_succ (by omega), val_take_succ' ul k, hud]
    have ev : val ((q : Int) :: out.drop (k + 1)) = (q : Int) + 1000000000 * val (out.drop (k + 1)) := rfl
    rw [ev, Int.pow_succ]
    have hsub : ((R' - q * V : Nat) : Int) = (R' : Int) - (V : Int) * (q : Int) := by
     rw [Int.ofNat_sub hq1, Int.natCast_mul, Int.mul_comm (q : Int)]
    rw [hsub, ← hR']
    generalize val (out.drop (k + 1)) = z
    generalize (1000000000 : Int) ^ k = p
    have e6 : ((un + 1000000000 * R : Nat) : Int) = (un : Int) + 1000000000 * (R : Int) := by omega
    rw [e6]
    grind
theorem f166_l5_spec {d : Nat} (hd : 0 < d) (hdB : d < 1000000000) {rl : List Int} (hrl : Lim rl) (hr2 : rl.length ≤ 100000) : ∀ (t f : Nat) (c : Nat) (out : List Int), t < f → t ≤ rl.length → c < d → Lim out → out.length = rl.length → val (out.drop t) * (d : Int) + (c : Int) = val (rl.drop t) →
 ∃ out', f166_l5 (d : Int) rl f ((c : Int), (t : Int) - 1, out) = some out' ∧ Lim out' ∧ out'.length = rl.length ∧ ∃ c', 0 ≤ c' ∧ c' < (d : Int) ∧ val out' * (d : Int) + c' = val rl := by
 intro t
 induction t with
 | zero =>
   intro f c out hf _ hc ho hl hv
   obtain ⟨f, rfl⟩ : ∃ g, f = g + 1 := ⟨f - 1, by omega⟩
   exact ⟨out, rfl, ho, hl, c, by omega, by omega, by simpa using hv⟩
 | succ k ih =>
   intro f c out hf hk hc ho hl hv
   obtain ⟨f, rfl⟩ : ∃ g, f = g + 1 := ⟨f - 1, by omega⟩
   have gr := hrl.getD k
   generalize hrd : List.getD rl k 0 = rk at *
   obtain ⟨rn, rfl⟩ : ∃ rn : Nat, rk = (rn : Int) := ⟨rk.toNat, by omega⟩
   generalize hT : c * 1000000000 + rn = T
   have hTlt : T < d * 1000000000 := by
    have : (c + 1) * 1000000000 ≤ d * 1000000000 := Nat.mul_le_mul_right _ hc
    omega
   have hq : T / d < 1000000000 := (Nat.div_lt_iff_lt_mul hd).2 (by rw [Nat.mul_comm]; exact hTlt)
   have hm : T % d < d := Nat.mod_lt _ hd
   have hdm := Nat.div_add_mod T d
   have x5 : Int.tdiv ((T : Nat) : Int) (d : Int) = ((T / d : Nat) : Int) := by rw [Int.tdiv_eq_ediv_of_nonneg (by omega)]; rfl
   have x6 : Int.tmod ((T : Nat) : Int) (d : Int) = ((T % d : Nat) : Int) := by rw [Int.tmod_eq_emod_of_nonneg (by omega)]; rfl
   generalize T / d = Q at *
   generalize T % d = M at *
   obtain ⟨out', h1, h2, h3, h4⟩ := ih f M (List.set out k (Q : Int)) (by omega) (by omega) hm (ho.set (by omega)) (by simpa using hl) (by
    rw [drop_set_succ (by omega), drop_getD (show k < rl.length by omega), hrd]
    show ((Q : Int) + 1000000000 * val (out.drop (k + 1))) * (d : Int) + (M : Int) = (rn : Int) + 1000000000 * val (rl.drop (k + 1))
    rw [← hv]
    have e1 : ((T : Nat) : Int) = (d : Int) * (Q : Int) + (M : Int) := by rw [← Int.natCast_mul, ← Int.natCast_add, hdm]
    have e2 : ((T : Nat) : Int) = (c : Int) * 1000000000 + (rn : Int) := by omega
    grind)
   refine ⟨out', ?_, h2, h3, h4⟩
   have step : f166_l5 (d : Int) rl (f + 1) ((c : Int), ((k + 1 : Nat) : Int) - 1, out) = f166_l5_b (d : Int) rl (f166_l5 (d : Int) rl f) ((c : Int), ((k + 1 : Nat) : Int) - 1, out) := rfl
   rw [step, show ((k + 1 : Nat) : Int) - 1 = (k : Int) by omega]
   unfold f166_l5_b
   show (bif decide ((0 : Int) ≤ (k : Int)) then _ else _) = _
   rw [decide_eq_true (show (0 : Int) ≤ (k : Int) by omega)]
   simp only [cond_true]
   have tt : toN (k : Int) = k := rfl
   have x1 : wrapI .u64 (d : Int) = (d : Int) := wrapI_u64 (by omega) (by omega)
   have x2 : wrapI .u64 ((c : Int) * 1000000000) = (c : Int) * 1000000000 := wrapI_u64 (by omega) (by omega)
   have x3 : wrapI .u64 (rn : Int) = (rn : Int) := wrapI_u64 (by omega) (by omega)
   have x4 : wrapI .u64 ((c : Int) * 1000000000 + (rn : Int)) = ((T : Nat) : Int) := by rw [wrapI_u64 (by omega) (by omega)]; omega
   rw [tt, hrd, x1, x2, x3, x4, x5, x6, gd_true (by omega), gd_true (by omega), gd_true (by omega), gd_true (by omega), gd_true (by omega), gd_true (by omega), gd_true (by omega),
    wrapI_u64 (n := (Q : Int)) (by omega) (by omega), wrapI_u32 (n := (Q : Int)) (by omega) (by omega), wrapI_i64 (n := (k : Int) - 1) (by omega) (by omega)]
   exact h1
theorem divG_spec {m n : Nat} (hm : (limbs m).length ≤ 1000) (hn : (limbs n).length ≤ 1000) (hn0 : 0 < n) : divG (limbs m) (limbs n) = some (limbs (m / n), limbs (m % n)) := by
 generalize hlb : (limbs n).length = lb at *
 have hlb1 : 1 ≤ lb := by
  have : (limbs n).length ≠ 0 := fun e => by have := limbs_nil.1 e; omega
  omega
 have hw := (limbs_lim n).getD (lb - 1)
 have hwpos : 1 ≤ List.getD (limbs n) (lb - 1) 0 := by
  have nb := (limbs_spec n).2.1
  have lb' := limbs_lim n
  generalize limbs n = b at *
  rcases List.eq_nil_or_concat b with rfl | ⟨q, x, rfl⟩
  ·simp at hlb; omega
  ·rw [List.concat_eq_append] at hlb nb lb' ⊢
   have hx := nb q x rfl
   have e2 : lb - 1 = q.length := by simp at hlb; omega
   have e3 : List.getD (q ++ [x]) q.length 0 = x := getD_concat q x 0
   rw [e2, e3]
   have := (lb' x (by simp)).1
   omega
 have hbt : (n : Int) = val ((limbs n).take (lb - 1)) + 1000000000 ^ (lb - 1) * List.getD (limbs n) (lb - 1) 0 := by
  have := val_take_succ' (limbs n) (lb - 1)
  rw [show lb - 1 + 1 = lb by omega, List.take_of_length_le (by omega), limbs_val] at this
  exact this
 have hbr := val_take_lt (limbs_lim n) (k := lb - 1) (by omega)
 generalize hwd : List.getD (limbs n) (lb - 1) 0 = w at *
 have hdp : 0 ≤ 1000000000 / (w + 1) := Int.ediv_nonneg (by decide) (by omega)
 have hdl : 1000000000 / (w + 1) ≤ 1000000000 := Int.ediv_le_self _ (by decide)
 have hd1 : 1000000000 / (w + 1) * (w + 1) ≤ 1000000000 := Int.ediv_mul_le _ (by omega)
 have hd2 : 1000000000 < (1000000000 / (w + 1) + 1) * (w + 1) := Int.lt_ediv_add_one_mul_self _ (by omega)
 have e4 : Int.tdiv (1000000000 : Int) (w + 1) = 1000000000 / (w + 1) := Int.tdiv_eq_ediv_of_nonneg (by decide)
 have i1 : wrapI .i64 (ofN lb - (1 : Int)) = ((lb - 1 : Nat) : Int) := by rw [ofN_eq, wrapI_i64] <;> omega
 have t1 : toN ((lb - 1 : Nat) : Int) = lb - 1 := rfl
 have x1 : wrapI .u64 w = w := wrapI_u64 (by omega) (by omega)
 have x2 : wrapI .u64 (w + 1) = w + 1 := wrapI_u64 (by omega) (by omega)
 have x3 : wrapI .u64 (Int.tdiv (1000000000 : Int) (w + 1)) = 1000000000 / (w + 1) := by rw [e4]; exact wrapI_u64 hdp (by omega)
 generalize hdd : 1000000000 / (w + 1) = dI at *
 obtain ⟨hsc, hd3⟩ := scale_ge hwpos hw.2 hd1 hd2
 have hdB : dI < 1000000000 := by
  have : dI * 2 ≤ dI * (w + 1) := Int.mul_le_mul_of_nonneg_left (by omega) (by omega)
  omega
 have x4 : wrapI .u32 dI = dI := wrapI_u32 (by omega) (by omega)
 obtain ⟨d, rfl⟩ : ∃ d : Nat, dI = (d : Int) := ⟨dI.toNat, by omega⟩
 have g1 : (0 : Int) ≤ ((lb - 1 : Nat) : Int) := by omega
 have g2 : ((lb - 1 : Nat) : Int) < ((lb : Nat) : Int) := by omega
 have g3 : w + 1 ≠ 0 := by omega
 -- the divisor, scaled
 have hpn : (1000000000 : Int) ^ lb = 1000000000 ^ (lb - 1) * 1000000000 := by rw [← Int.pow_succ]; congr 1; omega
 have hVI : ((n * d : Nat) : Int) = (n : Int) * (d : Int) := Int.natCast_mul _ _
 have hlow : (1000000000 : Int) ^ (lb - 1) * ((d : Int) * w) ≤ ((n * d : Nat) : Int) := by
  rw [hVI, hbt, Int.add_mul]
  have e5 : (1000000000 : Int) ^ (lb - 1) * w * (d : Int) = 1000000000 ^ (lb - 1) * ((d : Int) * w) := by rw [Int.mul_assoc, Int.mul_comm w]
  have : 0 ≤ val ((limbs n).take (lb - 1)) * (d : Int) := Int.mul_nonneg hbr.1 (by omega)
  omega
 have hP := pow_pos' (lb - 1)
 have hhi : ((n * d : Nat) : Int) < 1000000000 ^ lb := by
  rw [hpn, hVI]
  generalize (1000000000 : Int) ^ (lb - 1) = P at *
  have h6 : (n : Int) + 1 ≤ P * (w + 1) := by rw [Int.mul_add, Int.mul_one]; omega
  have h7 : ((n : Int) + 1) * (d : Int) ≤ P * (w + 1) * (d : Int) := Int.mul_le_mul_of_nonneg_right h6 (by omega)
  have h8 : P * (w + 1) * (d : Int) = P * ((d : Int) * (w + 1)) := by rw [Int.mul_assoc, Int.mul_comm (w + 1)]
  have h9 : P * ((d : Int) * (w + 1)) ≤ P * 1000000000 := Int.mul_le_mul_of_nonneg_left hd1 (by omega)
  rw [Int.add_mul, Int.one_mul] at h7
  omega
 have hPv : (1000000000 : Int) ^ (lb - 1) ≤ ((n * d : Nat) : Int) := by
  have : (1000000000 : Int) ^ (lb - 1) * 1 ≤ 1000000000 ^ (lb - 1) * ((d : Int) * w) := Int.mul_le_mul_of_nonneg_left (by omega) (by omega)
  omega
 have hvl : (limbs (n * d)).length = lb := by
  have := norm_length (limbs_lim (n * d)) (limbs_spec (n * d)).2.1 (n := lb - 1) (by rw [limbs_val]; exact hPv) (by rw [limbs_val, show lb - 1 + 1 = lb by omega]; exact hhi)
  omega
 have htop0 := (limbs_lim (n * d)).getD (lb - 1)
 have htopv : 500000000 ≤ List.getD (limbs (n * d)) (lb - 1) 0 := by
  have h10 : ((n * d : Nat) : Int) = val ((limbs (n * d)).take (lb - 1)) + 1000000000 ^ (lb - 1) * List.getD (limbs (n * d)) (lb - 1) 0 := by
   have := val_take_succ' (limbs (n * d)) (lb - 1)
   rw [show lb - 1 + 1 = lb by omega, List.take_of_length_le (by omega), limbs_val] at this
   exact this
  have h11 := val_take_lt (limbs_lim (n * d)) (k := lb - 1) (by omega)
  have h12 : (1000000000 : Int) ^ (lb - 1) * ((d : Int) * w) < 1000000000 ^ (lb - 1) * (List.getD (limbs (n * d)) (lb - 1) 0 + 1) := by rw [Int.mul_add, Int.mul_one]; omega
  have := Int.lt_of_mul_lt_mul_left h12 (by omega)
  omega
 obtain ⟨top, htop⟩ : ∃ top : Nat, List.getD (limbs (n * d)) (lb - 1) 0 = (top : Int) := ⟨(List.getD (limbs (n * d)) (lb - 1) 0).toNat, by omega⟩
 have hVpos : 0 < n * d := Nat.mul_pos hn0 (by omega)
 -- the dividend
 have hul : (limbs (m * d)).length ≤ (limbs m).length + 1 := by
  refine limbs_len.2 ?_
  have h1 := limbs_len.1 (Nat.le_refl (limbs m).length)
  have h2 : ((m * d : Nat) : Int) ≤ (m : Int) * 1000000000 := by
   rw [Int.natCast_mul]
   exact Int.mul_le_mul_of_nonneg_left (by omega) (by omega)
  rw [Int.pow_succ]
  have h3 : (m : Int) * 1000000000 < 1000000000 ^ (limbs m).length * 1000000000 := by omega
  omega
 generalize hlm : (limbs m).length = lm at *
 generalize hlu : (limbs (m * d)).length = lu at *
 unfold divG
 have i2 : wrapI .i64 (ofN lm + (1 : Int)) = ((lm + 1 : Nat) : Int) := by rw [ofN_eq, wrapI_i64] <;> omega
 have i3 : wrapI .i64 (ofN lu - (1 : Int)) = (lu : Int) - 1 := by rw [ofN_eq, wrapI_i64] <;> omega
 have t2 : toN ((lm + 1 : Nat) : Int) = lm + 1 := rfl
 have t3 : Int.toNat (ofN lu) = lu := rfl
 have t4 : Int.toNat 0 = 0 := rfl
 have xt : wrapI .u64 (top : Int) = (top : Int) := wrapI_u64 (by omega) (by omega)
 have g4 : (0 : Int) ≤ ((lm + 1 : Nat) : Int) := by omega
 have g5 : ((lm + 1 : Nat) : Int) ≤ ((lm + 1 : Nat) : Int) := by omega
 have g6 : ((lm + 1 : Nat) : Int) ≤ 1073741824 := by omega
 have g7 : 0 < lm + 1 := by omega
 have g8 : (0 : Int) ≤ ofN lu := by rw [ofN_eq]; omega
 have g9 : ofN lu ≤ ((lm + 1 : Nat) : Int) := by rw [ofN_eq]; omega
 simp only [hlb, hlm, i1, i2, t1, t2, hwd, x1, x2, x3, x4, gd_true g1, gd_true g2, gd_true g3, gd_true g4, gd_true g5, gd_true g6]
 rw [F204_spec (by omega) (by omega), Option.bind_some]
 simp only [hvl, i1, t1, htop, xt, gd_true g1, gd_true g2]
 rw [F204_spec (by omega) (by omega), Option.bind_some]
 simp only [hlu, i3, t3, t4, Nat.sub_zero, List.length_replicate, gd_true g7, gd_true g8, gd_true g9]
 obtain ⟨R2, out', a1, a2, a3, a4, a5⟩ := f166_l0_spec hvl hlb1 (by omega) htop (by omega) (limbs_lim (m * d)) (by omega) lu hlu.symm lu (2 + lb + lu + ([] : List Int).length + (lm + 1)) 0 (List.replicate (lm + 1) 0) (by omega) (by omega) hVpos (lim_zeros _) (by simp; omega) (by simp; omega)
 have l0 : limbs 0 = [] := by rw [limbs]
 rw [l0] at a1
 rw [a1, Option.bind_some]
 have hz : val ((List.replicate (lm + 1) (0 : Int)).drop lu) = 0 := by rw [List.drop_replicate]; exact val_zeros _
 rw [hz, List.take_of_length_le (by omega), limbs_val] at a5
 simp only [Int.mul_zero, Int.add_zero, Int.natCast_zero] at a5
 -- the quotient and the remainder
 have hq0 := val_nonneg a3
 obtain ⟨Q, hQ⟩ : ∃ Q : Nat, val out' = (Q : Int) := ⟨(val out').toNat, by omega⟩
 rw [hQ] at a5
 have hnat : R2 + n * d * Q = m * d := by
  have : ((R2 + n * d * Q : Nat) : Int) = ((m * d : Nat) : Int) := by rw [Int.natCast_add, Int.natCast_mul (n * d)]; exact a5
  omega
 have hnQ : n * Q ≤ m := by
  have h1 : n * Q * d ≤ m * d := by
   have : n * Q * d = n * d * Q := by rw [Nat.mul_assoc, Nat.mul_comm Q, ← Nat.mul_assoc]
   omega
  exact Nat.le_of_mul_le_mul_right h1 (by omega)
 obtain ⟨r, rfl⟩ : ∃ r, m = n * Q + r := ⟨m - n * Q, by omega⟩
 have hR2 : R2 = r * d := by
  have : (n * Q + r) * d = n * d * Q + r * d := by rw [Nat.add_mul, Nat.mul_assoc n Q, Nat.mul_comm Q, ← Nat.mul_assoc]
  omega
 have hrn : r < n := by
  rw [hR2] at a2
  exact Nat.lt_of_mul_lt_mul_right a2
 obtain ⟨hdiv, hmod⟩ := mod_of (a := n * Q + r) (b := n) (c := Q) (r := r) (by rw [Nat.mul_comm]) hrn
 rw [hdiv, hmod]
 -- the remainder is scaled back
 have hr2l : (limbs R2).length ≤ 1100 := Nat.le_trans (limbs_le (Nat.le_of_lt a2)) (by omega)
 generalize hlr : (limbs R2).length = lr at *
 have i4 : wrapI .i64 (ofN lr - (1 : Int)) = (lr : Int) - 1 := by rw [ofN_eq, wrapI_i64] <;> omega
 have t5 : toN (ofN lr) = lr := rfl
 have g10 : (0 : Int) ≤ ofN lr := by rw [ofN_eq]; omega
 have g11 : ofN lr ≤ ofN lr := Int.le_refl _
 have g12 : ofN lr ≤ 1073741824 := by rw [ofN_eq]; omega
 simp only [hlr, i4, t5, a4, List.length_replicate, gd_true g10, gd_true g11, gd_true g12]
 obtain ⟨o2, b1, b2, b3, c', b4, b5, b6⟩ := f166_l5_spec (d := d) (by omega) (by omega) (limbs_lim R2) (by omega) lr (2 + lr + (lm + 1) + lr) 0 (List.replicate lr 0) (by omega) (by omega) (by omega) (lim_zeros _) (by simp; omega) (by
  rw [List.drop_of_length_le (by simp), List.drop_of_length_le (by omega)]; simp [val])
 have b1' : f166_l5 (d : Int) (limbs R2) (2 + lr + (lm + 1) + lr) ((0 : Int), (lr : Int) - 1, List.replicate lr (0 : Int)) = some o2 := b1
 rw [b1', Option.bind_some]
 rw [limbs_val, hR2] at b6
 have hv2 : val o2 = (r : Int) := by
  rw [Int.natCast_mul] at b6
  have h15 : ((r : Int) - val o2) * (d : Int) = c' := by rw [Int.sub_mul]; omega
  rcases Int.lt_trichotomy ((r : Int) - val o2) 0 with h | h | h
  ·have : ((r : Int) - val o2) * (d : Int) ≤ (-1) * (d : Int) := Int.mul_le_mul_of_nonneg_right (by omega) (by omega)
   omega
  ·omega
  ·have : 1 * (d : Int) ≤ ((r : Int) - val o2) * (d : Int) := Int.mul_le_mul_of_nonneg_right (by omega) (by omega)
   omega
 have hout : val (out'.take lu) = val out' := by
  refine val_take_of_lt a3 ?_
  have h1 := limbs_len.1 (show (limbs ((n * Q + r) * d)).length ≤ lu by omega)
  rw [hQ]
  have h2 : Q * 1 ≤ Q * (n * d) := Nat.mul_le_mul_left Q hVpos
  have h3 : n * d * Q = Q * (n * d) := Nat.mul_comm _ _
  omega
 rw [List.drop_zero, F120_spec' (a3.take lu) (by unfold small; simp; omega), Option.bind_some, hout, hQ, F120_spec' b2 (by unfold small; omega), Option.bind_some, hv2]
 rfl
theorem F166_spec {m n : Nat} (hm : (limbs m).length ≤ 1000) (hn : (limbs n).length ≤ 1000) (hn0 : 0 < n) : F166 (limbs m) (limbs n) = some (limbs (m / n), limbs (m % n)) := by
 rw [F166_eq]
 have big := divG_spec hm hn hn0
 by_cases h1 : (limbs m).length ≤ 2
 ·rw [show decide (ofN (limbs m).length ≤ 2) = true from decide_eq_true (by rw [ofN_eq]; omega)]
  by_cases h2 : (limbs n).length ≤ 2
  ·rw [show decide (ofN (limbs n).length ≤ 2) = true from decide_eq_true (by rw [ofN_eq]; omega)]
   simp only [cond_true]
   have b1 := limbs_len.1 h1
   have b2 := limbs_len.1 h2
   have e9 : (1000000000 : Int) ^ 2 = 1000000000000000000 := rfl
   have hd : m / n ≤ m := Nat.div_le_self _ _
   have hmm : m % n < n := Nat.mod_lt _ hn0
   have x5 : Int.tdiv ((m : Nat) : Int) (n : Int) = ((m / n : Nat) : Int) := by rw [Int.tdiv_eq_ediv_of_nonneg (by omega)]; rfl
   have x6 : Int.tmod ((m : Nat) : Int) (n : Int) = ((m % n : Nat) : Int) := by rw [Int.tmod_eq_emod_of_nonneg (by omega)]; rfl
   rw [F167_spec' (limbs_lim _) h1, Option.bind_some, F167_spec' (limbs_lim _) h2, Option.bind_some, limbs_val, limbs_val, x5, x6]
   generalize m / n = Q at *
   generalize m % n = M at *
   rw [gd_true (by omega), wrapI_u64 (by omega) (by omega), F80_spec' (by omega), Option.bind_some, gd_true (by omega), F80_spec' (by omega), Option.bind_some]
  ·rw [show decide (ofN (limbs n).length ≤ 2) = false from decide_eq_false (by rw [ofN_eq]; omega)]
   exact big
 ·rw [show decide (ofN (limbs m).length ≤ 2) = false from decide_eq_false (by rw [ofN_eq]; omega)]
  exact big
theorem f129_l1_eq (f : Nat) (s : Int × Int) : f129_l1 f s = f110_l1 f s := by kernel_rfl
theorem f129_l0_spec : ∀ (n m f : Nat), n < f → (limbs m).length ≤ 1000 → (limbs n).length ≤ 1000 →
 ∃ m' n', f129_l0 f (limbs m, limbs n) = some (limbs m', limbs n') ∧ Nat.gcd m' n' = Nat.gcd m n ∧ (n' = 0 ∨ ((limbs m').length ≤ 2 ∧ (limbs n').length ≤ 2)) ∧ (limbs m').length ≤ 1000 := by
 intro n
 induction n using Nat.strongRecOn with
 | _ n ih =>
   intro m f hf hm hn
   obtain ⟨f, rfl⟩ : ∃ g, f = g + 1 := ⟨f - 1, by omega⟩
   have step : f129_l0 (f + 1) (limbs m, limbs n) = f129_l0_b (f129_l0 f) (limbs m, limbs n) := rfl
   rw [step]
   unfold f129_l0_b
   show ∃ m' n', (bif decide ((0 : Int) < ofN (limbs n).length) then _ else _) = _ ∧ _
   rw [limbs_pos]
   by_cases h0 : n = 0
   ·subst h0
    rw [decide_eq_false (by omega)]
    exact ⟨m, 0, rfl, rfl, .inl rfl, hm⟩
   ·rw [decide_eq_true h0]
    simp only [cond_true]
    have hmod : m % n < n := Nat.mod_lt _ (by omega)
    obtain ⟨m', n', h1, h2, h3, h4⟩ := ih (m % n) hmod n f (by omega) hn (Nat.le_trans (limbs_le (by omega)) hn)
    have hg : Nat.gcd n (m % n) = Nat.gcd m n := by rw [Nat.gcd_comm m n, Nat.gcd_rec n m, Nat.gcd_comm]
    rw [hg] at h2
    rw [F166_spec hm hn (by omega)]
    simp only [Option.bind_some]
    by_cases hw1 : 2 < (limbs m).length
    ·rw [show decide ((2 : Int) < ofN (limbs m).length) = true from decide_eq_true (by rw [ofN_eq]; omega)]
     exact ⟨m', n', h1, h2, h3, h4⟩
    ·rw [show decide ((2 : Int) < ofN (limbs m).length) = false from decide_eq_false (by rw [ofN_eq]; omega)]
     simp only [cond_false]
     by_cases hw2 : 2 < (limbs n).length
     ·rw [show decide ((2 : Int) < ofN (limbs n).length) = true from decide_eq_true (by rw [ofN_eq]; omega)]
      exact ⟨m', n', h1, h2, h3, h4⟩
     ·rw [show decide ((2 : Int) < ofN (limbs n).length) = false from decide_eq_false (by rw [ofN_eq]; omega)]
      exact ⟨m, n, rfl, rfl, .inr ⟨by omega, by omega⟩, hm⟩
theorem F129_spec {x y : Int} (hx : bd 1000 x) (hy : bd 1000 y) : F129 (enc x) (enc y) = some (enc ((Int.gcd x y : Nat) : Int)) := by
 unfold bd at hx hy
 unfold F129
 show ((f129_l0 (2 + valF (limbs y.natAbs)) (limbs x.natAbs, limbs y.natAbs)).bind _) = _
 rw [valF_limbs]
 obtain ⟨m', n', h1, h2, h3, h4⟩ := f129_l0_spec y.natAbs x.natAbs (2 + y.natAbs) (by omega) hx hy
 rw [h1, Option.bind_some]
 have hg : Int.gcd x y = Nat.gcd m' n' := h2.symm
 rw [hg]
 have e : (ofN (limbs n').length == (0 : Int)) = decide (n' = 0) := by
  rw [ofN_eq, Bool.eq_iff_iff]
  simp only [beq_iff_eq, decide_eq_true_eq]
  constructor
  ·intro h
   exact limbs_nil.1 (by omega)
  ·intro h
   have := limbs_nil.2 h
   omega
 simp only [e]
 by_cases h0 : n' = 0
 ·subst h0
  rw [decide_eq_true rfl]
  simp only [cond_true]
  rw [F75_spec (limbs_lim _) (limbs_small (by omega)), Option.bind_some, limbs_val, Nat.gcd_zero_right]
  rfl
 ·rw [decide_eq_false h0]
  simp only [cond_false]
  rcases h3 with h3 | ⟨h3, h5⟩
  ·exact absurd h3 h0
  ·rw [F167_spec' (limbs_lim _) h3, Option.bind_some, F167_spec' (limbs_lim _) h5, Option.bind_some, limbs_val, limbs_val, f129_l1_eq]
   have t : Int.toNat ((n' : Nat) : Int) = n' := rfl
   rw [t, f110_l1_spec (2 + n') m' n' (by omega), Option.bind_some]
   have b2 := limbs_len.1 h5
   have e9 : (1000000000 : Int) ^ 2 = 1000000000000000000 := rfl
   have hgl : Nat.gcd n' m' ≤ n' := Nat.gcd_le_left m' (by omega)
   rw [F80_spec' (by omega), Option.bind_some, F75_spec (limbs_lim _) (limbs_small (by have := limbs_le hgl; omega)), Option.bind_some, limbs_val, Nat.gcd_comm]
   rfl
theorem F130_spec {x g : Int} (hx : bd 1000 x) (hg : bd 1000 g) (hpos : 0 < g) (hd : g ∣ x) : F130 (enc x) (enc g) = some (enc (x / g), enc 0, 0) := by
 have hx' := hx
 have hg' := hg
 unfold bd at hx' hg'
 obtain ⟨c, rfl⟩ := hd
 have hab : (g * c).natAbs = g.natAbs * c.natAbs := Int.natAbs_mul _ _
 have e1 : (g * c).natAbs / g.natAbs = c.natAbs := by rw [hab]; exact Nat.mul_div_cancel_left _ (by omega)
 have e2 : (g * c).natAbs % g.natAbs = 0 := by rw [hab]; exact Nat.mul_mod_right _ _
 have h1 := F166_spec (m := (g * c).natAbs) (n := g.natAbs) hx' hg' (by omega)
 rw [e1, e2] at h1
 unfold F130
 have e0 : (ofN (limbs g.natAbs).length == (0 : Int)) = false := by
  have : (limbs g.natAbs).length ≠ 0 := fun e => by have := limbs_nil.1 e; omega
  rw [ofN_eq]; simp; intro e; rw [e] at this; exact this rfl
 show (bif (ofN (limbs g.natAbs).length == (0 : Int)) then _ else ((F166 (limbs (g * c).natAbs) (limbs g.natAbs)).bind _)) = _
 rw [e0, h1]
 simp only [cond_false, Option.bind_some]
 have hcl : (limbs c.natAbs).length ≤ 1000 := Nat.le_trans (limbs_le (by rw [hab]; exact Nat.le_mul_of_pos_left _ (by omega))) hx'
 have l0 : limbs 0 = [] := by rw [limbs]
 have lv0 : val (limbs 0) = 0 := by rw [l0]; rfl
 rw [F75_spec (limbs_lim _) (limbs_small (by omega)), Option.bind_some, F75_spec (limbs_lim 0) (limbs_small (by rw [l0]; simp)), Option.bind_some, lv0, limbs_val]
 have e3 : ∀ b : Bool, (bif b then -(0 : Int) else 0) = 0 := by intro b; cases b <;> rfl
 have e4 : decide ((0 : Int) < ofN (limbs 0).length) = false := by rw [l0]; rfl
 rw [e3, e4]
 simp only [cond_false]
 rw [Int.mul_ediv_cancel_left _ (show g ≠ 0 by omega)]
 congr 2
 congr 1
 show (bif !(decide (g * c < 0) == decide (g < 0)) then -((c.natAbs : Nat) : Int) else ((c.natAbs : Nat) : Int)) = c
 rw [decide_eq_false (show ¬ g < 0 by omega)]
 by_cases hc : c < 0
 ·have : g * c < 0 := Int.mul_neg_of_pos_of_neg hpos hc
  rw [decide_eq_true this]
  show -((c.natAbs : Nat) : Int) = c
  omega
 ·have : 0 ≤ g * c := Int.mul_nonneg (by omega) (by omega)
  rw [decide_eq_false (show ¬ g * c < 0 by omega)]
  show ((c.natAbs : Nat) : Int) = c
  omega
def redZ (a b : Int) : Int × Int := if b < 0 then (-a / (Int.gcd a b : Nat), -b / (Int.gcd a b : Nat)) else (a / (Int.gcd a b : Nat), b / (Int.gcd a b : Nat))
def encP (p : Int × Int) : RT := (enc p.1, enc p.2)
def okP (n : Nat) (p : Int × Int) : Prop := 0 < p.2 ∧ bd n p.1 ∧ bd n p.2
theorem okP.mono {n m : Nat} {p : Int × Int} (h : okP n p) (hm : n ≤ m) : okP m p := ⟨h.1, bd_mono h.2.1 hm, bd_mono h.2.2 hm⟩
theorem red_scale {k a b : Int} (hk : 0 < k) : redZ (k * a) (k * b) = redZ a b := by
 unfold redZ
 have hg : Int.gcd (k * a) (k * b) = k.natAbs * Int.gcd a b := Int.gcd_mul_left ..
 have hs : (k * b < 0) ↔ b < 0 := by
  constructor
  ·intro h
   rcases Int.lt_or_le b 0 with h1 | h1
   ·exact h1
   ·have := Int.mul_nonneg (Int.le_of_lt hk) h1; omega
  ·intro h; exact Int.mul_neg_of_pos_of_neg hk h
 have hc : ((k.natAbs * Int.gcd a b : Nat) : Int) = k * (Int.gcd a b : Nat) := by rw [Int.natCast_mul]; congr 1; omega
 rw [hg, hc]
 by_cases h : b < 0
 ·rw [if_pos h, if_pos (hs.2 h), show -(k * a) = k * (-a) by rw [Int.mul_neg], show -(k * b) = k * (-b) by rw [Int.mul_neg], Int.mul_ediv_mul_of_pos _ _ hk, Int.mul_ediv_mul_of_pos _ _ hk]
 ·rw [if_neg h, if_neg (fun h2 => h (hs.1 h2)), Int.mul_ediv_mul_of_pos _ _ hk, Int.mul_ediv_mul_of_pos _ _ hk]
theorem red_ok {n : Nat} {a b : Int} (ha : bd n a) (hb : bd n b) (h0 : b ≠ 0) : okP n (redZ a b) := by
 have hgp : (0 : Int) < ((Int.gcd a b : Nat) : Int) := by
  have : 0 < Int.gcd a b := Int.gcd_pos_of_ne_zero_right a h0
  omega
 have hga : ((Int.gcd a b : Nat) : Int) ∣ a := Int.gcd_dvd_left a b
 have hgb : ((Int.gcd a b : Nat) : Int) ∣ b := Int.gcd_dvd_right a b
 unfold redZ okP
 generalize ((Int.gcd a b : Nat) : Int) = g at *
 obtain ⟨c, rfl⟩ := hga
 obtain ⟨d, rfl⟩ := hgb
 have hle : ∀ z : Int, z.natAbs ≤ (g * z).natAbs := by
  intro z
  rw [Int.natAbs_mul]
  exact Nat.le_mul_of_pos_left _ (by omega)
 have hs : ∀ z : Int, (0 < g * z ↔ 0 < z) ∧ (g * z < 0 ↔ z < 0) := by
  intro z
  rcases Int.lt_trichotomy z 0 with h | h | h
  ·have := Int.mul_neg_of_pos_of_neg hgp h; omega
  ·subst h; rw [Int.mul_zero]; omega
  ·have := Int.mul_pos hgp h; omega
 have hd := hs d
 by_cases h : g * d < 0
 ·rw [if_pos h]
  rw [show -(g * c) = g * (-c) by rw [Int.mul_neg], show -(g * d) = g * (-d) by rw [Int.mul_neg], Int.mul_ediv_cancel_left _ (by omega), Int.mul_ediv_cancel_left _ (by omega)]
  exact ⟨by simp only; omega, bd_neg (bd_le ha (hle c)), bd_neg (bd_le hb (hle d))⟩
 ·rw [if_neg h, Int.mul_ediv_cancel_left _ (by omega), Int.mul_ediv_cancel_left _ (by omega)]
  exact ⟨by simp only; omega, bd_le ha (hle c), bd_le hb (hle d)⟩
theorem gcd_pos' {n : Nat} {a b : Int} (hb : bd n b) (h0 : b ≠ 0) : (0 : Int) < ((Int.gcd a b : Nat) : Int) ∧ bd n ((Int.gcd a b : Nat) : Int) := by
 have h : 0 < Int.gcd a b := Int.gcd_pos_of_ne_zero_right a h0
 refine ⟨by omega, bd_le hb ?_⟩
 have := Nat.gcd_le_right a.natAbs (n := b.natAbs) (by omega)
 show ((Int.gcd a b : Nat) : Int).natAbs ≤ _
 rw [Int.natAbs_natCast]
 exact this
theorem F67_ex {n : Nat} {a b : Int} (ha : bd n a) (hb : bd n b) (hn : n ≤ 1000) (h0 : b ≠ 0) : F67 (enc a) (enc b) = some (encP (redZ a b)) := by
 have pos : ∀ {a b : Int}, bd n a → bd n b → b ≠ 0 → ((F110 (enc a) (enc b)).bind fun y11 => (F105).bind fun y12 => (F71 y11 y12).bind fun y13 => ((f67_c1 (y13 != (0 : Int)) (enc a) (enc b) y11).bind fun o23 => some (o23.1, o23.2))) = some (enc (a / (Int.gcd a b : Nat)), enc (b / (Int.gcd a b : Nat))) := by
  intro a b ha hb hb0
  rw [F110_spec (bd_mono ha hn) (bd_mono hb hn), Option.bind_some, F105_spec, Option.bind_some]
  obtain ⟨hgp, hgbd⟩ := gcd_pos' (a := a) hb hb0
  have hga : ((Int.gcd a b : Nat) : Int) ∣ a := Int.gcd_dvd_left a b
  have hgb : ((Int.gcd a b : Nat) : Int) ∣ b := Int.gcd_dvd_right a b
  generalize ((Int.gcd a b : Nat) : Int) = g at *
  rw [F71_spec (bd_sm hgbd hn) (bd_sm bd_one (by omega)), Option.bind_some]
  by_cases h1 : g = 1
  ·subst h1
   have : (cmpI 1 1 != (0 : Int)) = false := rfl
   rw [this, Int.ediv_one, Int.ediv_one]
   rfl
  ·have : (cmpI g 1 != (0 : Int)) = true := by
    unfold cmpI
    rw [if_neg (by omega), if_pos (by omega)]
    rfl
   rw [this]
   unfold f67_c1
   simp only [cond_true]
   rw [F111_spec (bd_mono ha hn) (bd_mono hgbd hn) hgp hga, Option.bind_some, F111_spec (bd_mono hb hn) (bd_mono hgbd hn) hgp hgb, Option.bind_some, Option.bind_some]
 unfold F67 f67_c0
 rw [F108_spec, Option.bind_some]
 by_cases hneg : b < 0
 ·have : decide (sgn b < 0) = true := by unfold sgn; rw [if_pos hneg]; rfl
  rw [this]
  simp only [cond_true]
  rw [F109_spec (bd_mono ha hn), Option.bind_some, F109_spec (bd_mono hb hn), Option.bind_some, Option.bind_some]
  refine (pos (bd_neg ha) (bd_neg hb) (by omega)).trans ?_
  unfold encP redZ
  rw [if_pos hneg, Int.gcd_neg, Int.neg_gcd]
 ·have : decide (sgn b < 0) = false := by unfold sgn; rw [if_neg hneg]; split <;> rfl
  rw [this]
  simp only [cond_false, Option.bind_some]
  refine (pos ha hb h0).trans ?_
  unfold encP redZ
  rw [if_neg hneg]
theorem F79_ex {n : Nat} {a b : Int} (ha : bd n a) (hb : bd n b) (hn : n ≤ 1000) (h0 : b ≠ 0) : F79 (enc a) (enc b) = some (encP (redZ a b)) := by
 have pos : ∀ {a b : Int}, bd n a → bd n b → b ≠ 0 → ((F129 (enc a) (enc b)).bind fun y11 => (F130 (enc a) y11).bind fun y12 => (F130 (enc b) y11).bind fun y13 => some (y12.1, y13.1)) = some (enc (a / (Int.gcd a b : Nat)), enc (b / (Int.gcd a b : Nat))) := by
  intro a b ha hb hb0
  rw [F129_spec (bd_mono ha hn) (bd_mono hb hn), Option.bind_some]
  obtain ⟨hgp, hgbd⟩ := gcd_pos' (a := a) hb hb0
  rw [F130_spec (bd_mono ha hn) (bd_mono hgbd hn) hgp (Int.gcd_dvd_left a b), Option.bind_some, F130_spec (bd_mono hb hn) (bd_mono hgbd hn) hgp (Int.gcd_dvd_right a b), Option.bind_some]
 unfold F79 f79_c0
 rw [F127_spec', Option.bind_some]
 by_cases hneg : b < 0
 ·have : decide (sgn b < 0) = true := by unfold sgn; rw [if_pos hneg]; rfl
  rw [this]
  simp only [cond_true]
  rw [F128_spec' (bd_mono ha hn), Option.bind_some, F128_spec' (bd_mono hb hn), Option.bind_some, Option.bind_some]
  refine (pos (bd_neg ha) (bd_neg hb) (by omega)).trans ?_
  unfold encP redZ
  rw [if_pos hneg, Int.gcd_neg, Int.neg_gcd]
 ·have : decide (sgn b < 0) = false := by unfold sgn; rw [if_neg hneg]; split <;> rfl
  rw [this]
  simp only [cond_false, Option.bind_some]
  refine (pos ha hb h0).trans ?_
  unfold encP redZ
  rw [if_neg hneg]
abbrev PZ := Int × Int
def mulZ (p q : PZ) : PZ := redZ (p.1 * q.1) (p.2 * q.2)
def addZ (p q : PZ) : PZ := redZ (p.1 * q.2 + q.1 * p.2) (p.2 * q.2)
def negZ (p : PZ) : PZ := (-p.1, p.2)
def subZ (p q : PZ) : PZ := addZ p (negZ q)
def divZ (p q : PZ) : PZ := redZ (p.1 * q.2) (p.2 * q.1)
def cmpZ (p q : PZ) : Int := cmpI (p.1 * q.2) (q.1 * p.2)
theorem mul_ok {n m : Nat} {p q : PZ} (hp : okP n p) (hq : okP m q) : okP (n + m) (mulZ p q) := red_ok (bd_mul hp.2.1 hq.2.1) (bd_mul hp.2.2 hq.2.2) (by have := Int.mul_pos hp.1 hq.1; omega)
theorem add_ok {n m : Nat} {p q : PZ} (hp : okP n p) (hq : okP m q) : okP (n + m + 1) (addZ p q) :=
 red_ok (bd_add (bd_mul hp.2.1 hq.2.2) (bd_mono (bd_mul hq.2.1 hp.2.2) (by omega))) (bd_mono (bd_mul hp.2.2 hq.2.2) (by omega)) (by have := Int.mul_pos hp.1 hq.1; omega)
theorem neg_ok {n : Nat} {p : PZ} (hp : okP n p) : okP n (negZ p) := ⟨hp.1, bd_neg hp.2.1, hp.2.2⟩
theorem sub_ok {n m : Nat} {p q : PZ} (hp : okP n p) (hq : okP m q) : okP (n + m + 1) (subZ p q) := add_ok hp (neg_ok hq)
theorem div_ok {n m : Nat} {p q : PZ} (hp : okP n p) (hq : okP m q) (h0 : q.1 ≠ 0) : okP (n + m) (divZ p q) := red_ok (bd_mul hp.2.1 hq.2.2) (bd_mul hp.2.2 hq.2.1) (by have := hp.1; exact Int.mul_ne_zero (by omega) h0)
theorem p_mul {n m : Nat} {p q : PZ} (hp : okP n p) (hq : okP m q) (h : n + m ≤ 1000) : F43 (encP p) (encP q) = some (encP (mulZ p q)) := by
 unfold F43 encP
 simp only
 rw [F68_spec (bd_sm hp.2.1 (by omega)) (bd_sm hq.2.1 (by omega)), Option.bind_some, F68_spec (bd_sm hp.2.2 (by omega)) (bd_sm hq.2.2 (by omega)), Option.bind_some,
  F67_ex (bd_mul hp.2.1 hq.2.1) (bd_mul hp.2.2 hq.2.2) h (by have := Int.mul_pos hp.1 hq.1; omega), Option.bind_some]
 rfl
theorem p_add {n m : Nat} {p q : PZ} (hp : okP n p) (hq : okP m q) (h : n + m + 1 ≤ 1000) : F200 (encP p) (encP q) = some (encP (addZ p q)) := by
 have hpos := Int.mul_pos hp.1 hq.1
 unfold F200 encP
 simp only
 rw [F71_spec (bd_sm hp.2.2 (by omega)) (bd_sm hq.2.2 (by omega)), Option.bind_some]
 by_cases he : p.2 = q.2
 ·have : (cmpI p.2 q.2 == (0 : Int)) = true := by
   unfold cmpI
   rw [if_neg (by omega), if_neg (by omega)]
   rfl
  rw [this]
  simp only [cond_true]
  rw [F198_spec (bd_sm hp.2.1 (by omega)) (bd_sm hq.2.1 (by omega)), Option.bind_some,
   F67_ex (bd_add (bd_mono hp.2.1 (show n ≤ n + m by omega)) (bd_mono hq.2.1 (show m ≤ n + m by omega))) (bd_mono hp.2.2 (show n ≤ n + m + 1 by omega)) h (by have := hp.1; omega), Option.bind_some]
  unfold addZ encP
  rw [← he, ← red_scale (k := p.2) (a := p.1 + q.1) (b := p.2) hp.1]
  rw [show p.2 * (p.1 + q.1) = p.1 * p.2 + q.1 * p.2 by rw [Int.mul_add, Int.mul_comm p.2 p.1, Int.mul_comm p.2 q.1]]
 ·have : (cmpI p.2 q.2 == (0 : Int)) = false := by
   unfold cmpI
   split
   ·rfl
   ·rw [if_pos (by omega)]; rfl
  rw [this]
  simp only [cond_false]
  rw [F68_spec (bd_sm hp.2.1 (by omega)) (bd_sm hq.2.2 (by omega)), Option.bind_some, F68_spec (bd_sm hq.2.1 (by omega)) (bd_sm hp.2.2 (by omega)), Option.bind_some,
   F198_spec (bd_sm (bd_mul hp.2.1 hq.2.2) (by omega)) (bd_sm (bd_mul hq.2.1 hp.2.2) (by omega)), Option.bind_some, F68_spec (bd_sm hp.2.2 (by omega)) (bd_sm hq.2.2 (by omega)), Option.bind_some,
   F67_ex (bd_add (bd_mul hp.2.1 hq.2.2) (bd_mono (bd_mul hq.2.1 hp.2.2) (show m + n ≤ n + m by omega))) (bd_mono (bd_mul hp.2.2 hq.2.2) (show n + m ≤ n + m + 1 by omega)) h (by omega), Option.bind_some]
  rfl
theorem p_neg {n : Nat} {p : PZ} (hp : okP n p) (h : n ≤ 1000) : F221 (encP p) = some (encP (negZ p)) := by
 unfold F221 encP
 simp only
 rw [F109_spec (bd_mono hp.2.1 h), Option.bind_some]
 rfl
theorem p_sub {n m : Nat} {p q : PZ} (hp : okP n p) (hq : okP m q) (h : n + m + 1 ≤ 1000) : F160 (encP p) (encP q) = some (encP (subZ p q)) := by
 unfold F160 F199
 rw [p_neg hq (by omega), Option.bind_some, p_add hp (neg_ok hq) h, Option.bind_some, Option.bind_some]
 rfl
theorem p_mul' {n m : Nat} {p q : PZ} (hp : okP n p) (hq : okP m q) (h : n + m ≤ 1000) : F119 (encP p) (encP q) = some (encP (mulZ p q)) := by
 unfold F119
 rw [p_mul hp hq h, Option.bind_some]
theorem p_add' {n m : Nat} {p q : PZ} (hp : okP n p) (hq : okP m q) (h : n + m + 1 ≤ 1000) : F161 (encP p) (encP q) = some (encP (addZ p q)) := by
 unfold F161
 rw [p_add hp hq h, Option.bind_some]
theorem p_sign (p : PZ) : F70 (encP p) = some (sgn p.1) := by
 unfold F70 encP
 simp only
 rw [F108_spec, Option.bind_some]
theorem p_div {n m : Nat} {p q : PZ} (hp : okP n p) (hq : okP m q) (h : n + m ≤ 1000) (h0 : q.1 ≠ 0) : F118 (encP p) (encP q) = some (encP (divZ p q)) := by
 unfold F118 F162
 rw [p_sign, Option.bind_some]
 have e : (sgn q.1 == (0 : Int)) = false := by
  unfold sgn
  split
  ·rfl
  ·rw [if_pos (by omega)]; rfl
 rw [e]
 unfold encP
 simp only [cond_false]
 rw [F68_spec (bd_sm hp.2.1 (by omega)) (bd_sm hq.2.2 (by omega)), Option.bind_some, F68_spec (bd_sm hp.2.2 (by omega)) (bd_sm hq.2.1 (by omega)), Option.bind_some,
  F67_ex (bd_mul hp.2.1 hq.2.2) (bd_mul hp.2.2 hq.2.1) h (by have := hp.1; exact Int.mul_ne_zero (by omega) h0), Option.bind_some, Option.bind_some]
 rfl
theorem p_from {n : Int} (h : -9223372036854775808 ≤ n ∧ n ≤ 9223372036854775807) : F42 n = some (encP (n, 1)) := by
 unfold F42 F65
 rw [F66_spec h, Option.bind_some, F105_spec]
 rfl
theorem p_cmp {n m : Nat} {p q : PZ} (hp : okP n p) (hq : okP m q) (h : n + m ≤ 1000) : F45 (encP p) (encP q) = some (cmpZ p q) := by
 unfold F45
 rw [p_sign, Option.bind_some, p_sign, Option.bind_some, F69_tot, Option.bind_some]
 have key : (cmpI (sgn p.1) (sgn q.1) != (0 : Int)) = true → cmpI (sgn p.1) (sgn q.1) = cmpZ p q := by
  intro hne
  unfold cmpZ
  have hpp := hp.1
  have hqq := hq.1
  have h1 : (0 < p.1 * q.2 ↔ 0 < p.1) ∧ (p.1 * q.2 < 0 ↔ p.1 < 0) := by
   rcases Int.lt_trichotomy p.1 0 with h | h | h
   ·have := Int.mul_neg_of_neg_of_pos h hqq; omega
   ·rw [h, Int.zero_mul]; omega
   ·have := Int.mul_pos h hqq; omega
  have h2 : (0 < q.1 * p.2 ↔ 0 < q.1) ∧ (q.1 * p.2 < 0 ↔ q.1 < 0) := by
   rcases Int.lt_trichotomy q.1 0 with h | h | h
   ·have := Int.mul_neg_of_neg_of_pos h hpp; omega
   ·rw [h, Int.zero_mul]; omega
   ·have := Int.mul_pos h hpp; omega
  generalize p.1 * q.2 = x at *
  generalize q.1 * p.2 = y at *
  revert hne
  unfold cmpI sgn
  rcases Int.lt_trichotomy p.1 0 with h | h | h <;> rcases Int.lt_trichotomy q.1 0 with k | k | k <;> (simp only [bne_iff_ne, ne_eq]; repeat' split) <;> intros <;> first | rfl | omega
 cases hne : (cmpI (sgn p.1) (sgn q.1) != (0 : Int)) with
 | true => simp only [cond_true]; rw [key hne]
 | false =>
   simp only [cond_false]
   unfold encP
   simp only
   rw [F68_spec (bd_sm hp.2.1 (by omega)) (bd_sm hq.2.2 (by omega)), Option.bind_some, F68_spec (bd_sm hq.2.1 (by omega)) (bd_sm hp.2.2 (by omega)), Option.bind_some,
    F71_spec (bd_sm (bd_mul hp.2.1 hq.2.2) (by omega)) (bd_sm (bd_mul hq.2.1 hp.2.2) (by omega)), Option.bind_some]
   rfl
theorem r_mul {n m : Nat} {p q : PZ} (hp : okP n p) (hq : okP m q) (h : n + m ≤ 1000) : F52 (encP p) (encP q) = some (encP (mulZ p q)) := by
 unfold F52 encP
 simp only
 rw [F48_spec' (bd_mono hp.2.1 (by omega)) (bd_mono hq.2.1 (by omega)), Option.bind_some, F48_spec' (bd_mono hp.2.2 (by omega)) (bd_mono hq.2.2 (by omega)), Option.bind_some,
  F79_ex (bd_mul hp.2.1 hq.2.1) (bd_mul hp.2.2 hq.2.2) h (by have := Int.mul_pos hp.1 hq.1; omega), Option.bind_some]
 rfl
theorem r_add {n m : Nat} {p q : PZ} (hp : okP n p) (hq : okP m q) (h : n + m + 1 ≤ 1000) : F202 (encP p) (encP q) = some (encP (addZ p q)) := by
 have hpos := Int.mul_pos hp.1 hq.1
 unfold F202 encP
 simp only
 rw [F48_spec' (bd_mono hp.2.1 (by omega)) (bd_mono hq.2.2 (by omega)), Option.bind_some, F48_spec' (bd_mono hq.2.1 (by omega)) (bd_mono hp.2.2 (by omega)), Option.bind_some,
  F169_spec (bd_mono (bd_mul hp.2.1 hq.2.2) (by omega)) (bd_mono (bd_mul hq.2.1 hp.2.2) (by omega)), Option.bind_some, F48_spec' (bd_mono hp.2.2 (by omega)) (bd_mono hq.2.2 (by omega)), Option.bind_some,
  F79_ex (bd_add (bd_mul hp.2.1 hq.2.2) (bd_mono (bd_mul hq.2.1 hp.2.2) (show m + n ≤ n + m by omega))) (bd_mono (bd_mul hp.2.2 hq.2.2) (show n + m ≤ n + m + 1 by omega)) h (by omega), Option.bind_some]
 rfl
theorem r_neg {n : Nat} {p : PZ} (hp : okP n p) (h : n ≤ 1000) : F222 (encP p) = some (encP (negZ p)) := by
 unfold F222 encP
 simp only
 rw [F128_spec' (bd_mono hp.2.1 h), Option.bind_some]
 rfl
theorem r_sub {n m : Nat} {p q : PZ} (hp : okP n p) (hq : okP m q) (h : n + m + 1 ≤ 1000) : F163 (encP p) (encP q) = some (encP (subZ p q)) := by
 unfold F163 F201
 rw [r_neg hq (by omega), Option.bind_some, r_add hp (neg_ok hq) h, Option.bind_some, Option.bind_some]
 rfl
theorem r_mul' {n m : Nat} {p q : PZ} (hp : okP n p) (hq : okP m q) (h : n + m ≤ 1000) : F126 (encP p) (encP q) = some (encP (mulZ p q)) := by
 unfold F126
 rw [r_mul hp hq h, Option.bind_some]
theorem r_add' {n m : Nat} {p q : PZ} (hp : okP n p) (hq : okP m q) (h : n + m + 1 ≤ 1000) : F164 (encP p) (encP q) = some (encP (addZ p q)) := by
 unfold F164
 rw [r_add hp hq h, Option.bind_some]
theorem r_sign (p : PZ) : F121 (encP p) = some (sgn p.1) := by
 unfold F121 encP
 simp only
 rw [F127_spec', Option.bind_some]
theorem r_div {n m : Nat} {p q : PZ} (hp : okP n p) (hq : okP m q) (h : n + m ≤ 1000) (h0 : q.1 ≠ 0) : F125 (encP p) (encP q) = some (encP (divZ p q)) := by
 have hb0 : p.2 * q.1 ≠ 0 := by have := hp.1; exact Int.mul_ne_zero (by omega) h0
 unfold F125 F165 F203 encP
 simp only
 rw [F48_spec' (bd_mono hp.2.1 (by omega)) (bd_mono hq.2.2 (by omega)), Option.bind_some, F48_spec' (bd_mono hp.2.2 (by omega)) (bd_mono hq.2.1 (by omega)), Option.bind_some, F127_spec', Option.bind_some]
 have e : (sgn (p.2 * q.1) == (0 : Int)) = false := by
  unfold sgn
  split
  ·rfl
  ·rw [if_pos (by omega)]; rfl
 rw [e]
 simp only [cond_false]
 rw [F79_ex (bd_mul hp.2.1 hq.2.2) (bd_mul hp.2.2 hq.2.1) h hb0, Option.bind_some, Option.bind_some, Option.bind_some]
 rfl
theorem r_from {n : Int} (h : -9223372036854775808 ≤ n ∧ n ≤ 9223372036854775807) : F35 n = some (encP (n, 1)) := by
 unfold F35 F54
 rw [F53_spec' h, Option.bind_some, F53_spec' (by omega), Option.bind_some]
 rfl
theorem r_cmp {n m : Nat} {p q : PZ} (hp : okP n p) (hq : okP m q) (h : n + m ≤ 1000) : F32 (encP p) (encP q) = some (cmpZ p q) := by
 unfold F32 encP
 simp only
 rw [F48_spec' (bd_mono hp.2.1 (by omega)) (bd_mono hq.2.2 (by omega)), Option.bind_some, F48_spec' (bd_mono hq.2.1 (by omega)) (bd_mono hp.2.2 (by omega)), Option.bind_some,
  F47_spec' (bd_sm (bd_mul hp.2.1 hq.2.2) (by omega)) (bd_sm (bd_mul hq.2.1 hp.2.2) (by omega)), Option.bind_some]
 rfl
abbrev VZ := PZ × PZ
abbrev VT2 := (((Bool × List Int) × (Bool × List Int)) × ((Bool × List Int) × (Bool × List Int)))
def encV (v : VZ) : VT2 := (encP v.1, encP v.2)
def okV (n : Nat) (v : VZ) : Prop := okP n v.1 ∧ okP n v.2
def wayZ (a b : VZ) : VZ := (subZ b.1 a.1, subZ b.2 a.2)
def crossZ (a b : VZ) : PZ := subZ (mulZ a.1 b.2) (mulZ a.2 b.1)
def dotZ (a b : VZ) : PZ := addZ (mulZ a.1 b.1) (mulZ a.2 b.2)
def intV (x y : Int) : VZ := ((x, 1), (y, 1))
def int64 (n : Int) : Prop := -9223372036854775808 ≤ n ∧ n ≤ 9223372036854775807
theorem ok_int {n : Int} (h : int64 n) : okP 3 (n, 1) := by
 refine ⟨by omega, ?_, ?_⟩
 ·rw [bd_iff]; unfold int64 at h; simp only; have : (1000000000 : Int) ^ 3 = 1000000000000000000000000000 := rfl; omega
 ·rw [bd_iff]; simp only; have : (1000000000 : Int) ^ 3 = 1000000000000000000000000000 := rfl; omega
theorem ok_intV {x y : Int} (hx : int64 x) (hy : int64 y) : okV 3 (intV x y) := ⟨ok_int hx, ok_int hy⟩
theorem ok_way {a b : VZ} (ha : okV 3 a) (hb : okV 3 b) : okV 7 (wayZ a b) := ⟨sub_ok hb.1 ha.1, sub_ok hb.2 ha.2⟩
theorem ok_cross {a b : VZ} (ha : okV 7 a) (hb : okV 7 b) : okP 29 (crossZ a b) := sub_ok (mul_ok ha.1 hb.2) (mul_ok ha.2 hb.1)
theorem ok_dot {a b : VZ} (ha : okV 7 a) (hb : okV 7 b) : okP 29 (dotZ a b) := add_ok (mul_ok ha.1 hb.1) (mul_ok ha.2 hb.2)
theorem p_vec {x y : Int} (hx : int64 x) (hy : int64 y) : F44 x y = some (encV (intV x y)) := by
 unfold F44; rw [p_from hx, Option.bind_some, p_from hy, Option.bind_some]; rfl
theorem r_vec {x y : Int} (hx : int64 x) (hy : int64 y) : F50 x y = some (encV (intV x y)) := by
 unfold F50; rw [r_from hx, Option.bind_some, r_from hy, Option.bind_some]; rfl
theorem p_way {a b : VZ} (ha : okV 3 a) (hb : okV 3 b) : F115 (encV a) (encV b) = some (encV (wayZ a b)) := by
 unfold F115 encV; simp only
 rw [p_sub hb.1 ha.1 (by omega), Option.bind_some, p_sub hb.2 ha.2 (by omega), Option.bind_some]; rfl
theorem r_way {a b : VZ} (ha : okV 3 a) (hb : okV 3 b) : F123 (encV a) (encV b) = some (encV (wayZ a b)) := by
 unfold F123 encV; simp only
 rw [r_sub hb.1 ha.1 (by omega), Option.bind_some, r_sub hb.2 ha.2 (by omega), Option.bind_some]; rfl
theorem p_cross {a b : VZ} (ha : okV 7 a) (hb : okV 7 b) : F116 (encV a) (encV b) = some (encP (crossZ a b)) := by
 unfold F116 encV; simp only
 rw [p_mul' ha.1 hb.2 (by omega), Option.bind_some, p_mul' ha.2 hb.1 (by omega), Option.bind_some, p_sub (mul_ok ha.1 hb.2) (mul_ok ha.2 hb.1) (by omega), Option.bind_some]; rfl
theorem r_cross {a b : VZ} (ha : okV 7 a) (hb : okV 7 b) : F122 (encV a) (encV b) = some (encP (crossZ a b)) := by
 unfold F122 encV; simp only
 rw [r_mul' ha.1 hb.2 (by omega), Option.bind_some, r_mul' ha.2 hb.1 (by omega), Option.bind_some, r_sub (mul_ok ha.1 hb.2) (mul_ok ha.2 hb.1) (by omega), Option.bind_some]; rfl
theorem p_dot {a b : VZ} (ha : okV 7 a) (hb : okV 7 b) : F117 (encV a) (encV b) = some (encP (dotZ a b)) := by
 unfold F117 encV; simp only
 rw [p_mul' ha.1 hb.1 (by omega), Option.bind_some, p_mul' ha.2 hb.2 (by omega), Option.bind_some, p_add' (mul_ok ha.1 hb.1) (mul_ok ha.2 hb.2) (by omega), Option.bind_some]; rfl
theorem r_dot {a b : VZ} (ha : okV 7 a) (hb : okV 7 b) : F124 (encV a) (encV b) = some (encP (dotZ a b)) := by
 unfold F124 encV; simp only
 rw [r_mul' ha.1 hb.1 (by omega), Option.bind_some, r_mul' ha.2 hb.2 (by omega), Option.bind_some, r_add' (mul_ok ha.1 hb.1) (mul_ok ha.2 hb.2) (by omega), Option.bind_some]; rfl
def sideZ (a b c : VZ) : Int := sgn (crossZ (wayZ a b) (wayZ a c)).1
def apart (x y : Int) : Bool := decide ((wrapI .i64 (x * y)) < (0 : Int))
def crossB (a b c d : VZ) : Bool := bif apart (sideZ a b c) (sideZ a b d) then apart (sideZ c d a) (sideZ c d b) else false
theorem p_crossing {a b c d : VZ} (ha : okV 3 a) (hb : okV 3 b) (hc : okV 3 c) (hd : okV 3 d) : F72 (encV a) (encV b) (encV c) (encV d) = some (crossB a b c d) := by
 unfold F72 crossB sideZ
 rw [p_way ha hb, Option.bind_some, p_way hc hd, Option.bind_some, p_way ha hc, Option.bind_some, p_cross (ok_way ha hb) (ok_way ha hc), Option.bind_some, p_sign, Option.bind_some,
  p_way ha hd, Option.bind_some, p_cross (ok_way ha hb) (ok_way ha hd), Option.bind_some, p_sign, Option.bind_some,
  p_way hc ha, Option.bind_some, p_cross (ok_way hc hd) (ok_way hc ha), Option.bind_some, p_sign, Option.bind_some,
  p_way hc hb, Option.bind_some, p_cross (ok_way hc hd) (ok_way hc hb), Option.bind_some, p_sign, Option.bind_some]
 unfold apart
 cases decide ((wrapI .i64 (sgn (crossZ (wayZ a b) (wayZ a c)).1 * sgn (crossZ (wayZ a b) (wayZ a d)).1)) < (0 : Int)) <;> rfl
theorem r_crossing {a b c d : VZ} (ha : okV 3 a) (hb : okV 3 b) (hc : okV 3 c) (hd : okV 3 d) : F77 (encV a) (encV b) (encV c) (encV d) = some (crossB a b c d) := by
 unfold F77 crossB sideZ
 simp only [r_way ha hb, r_way hc hd, r_way ha hc, r_way ha hd, r_way hc ha, r_way hc hb, Option.bind_some, r_cross (ok_way ha hb) (ok_way ha hc), r_cross (ok_way ha hb) (ok_way ha hd), r_cross (ok_way hc hd) (ok_way hc ha), r_cross (ok_way hc hd) (ok_way hc hb), r_sign]
 unfold apart
 cases decide ((wrapI .i64 (sgn (crossZ (wayZ a b) (wayZ a c)).1 * sgn (crossZ (wayZ a b) (wayZ a d)).1)) < (0 : Int)) <;> rfl
def toSegZ (a b p : VZ) : PZ :=
 let d := wayZ a b
 let q := wayZ a p
 let n := dotZ d d
 let t := dotZ d q
 bif decide (sgn t.1 ≤ 0) then dotZ q q else
 bif decide (0 ≤ cmpZ t n) then dotZ (wayZ b p) (wayZ b p) else divZ (mulZ (crossZ d q) (crossZ d q)) n
theorem cmp_pos {t n : PZ} (ht : 0 < t.2) (hn : 0 < n.2) (h1 : ¬ sgn t.1 ≤ 0) (h2 : ¬ 0 ≤ cmpZ t n) : n.1 ≠ 0 := by
 intro h0
 unfold cmpZ cmpI at h2
 rw [h0, Int.zero_mul] at h2
 have h1' : 0 < t.1 := by
  unfold sgn at h1
  split at h1
  ·omega
  ·split at h1 <;> omega
 have := Int.mul_pos h1' hn
 rw [if_neg (by omega), if_pos (by omega)] at h2
 omega
theorem ok_toSeg {a b p : VZ} (ha : okV 3 a) (hb : okV 3 b) (hp : okV 3 p) : okP 87 (toSegZ a b p) := by
 have hd := ok_way ha hb
 have hq := ok_way ha hp
 have he := ok_way hb hp
 unfold toSegZ
 cases h1 : decide (sgn (dotZ (wayZ a b) (wayZ a p)).1 ≤ 0) with
 | true => simp only [h1, cond_true]; exact (ok_dot hq hq).mono (by omega)
 | false =>
   cases h2 : decide (0 ≤ cmpZ (dotZ (wayZ a b) (wayZ a p)) (dotZ (wayZ a b) (wayZ a b))) with
   | true => simp only [h1, h2, cond_true, cond_false]; exact (ok_dot he he).mono (by omega)
   | false =>
     simp only [h1, h2, cond_false]
     exact div_ok (mul_ok (ok_cross hd hq) (ok_cross hd hq)) (ok_dot hd hd) (cmp_pos (ok_dot hd hq).1 (ok_dot hd hd).1 (of_decide_eq_false h1) (of_decide_eq_false h2))
theorem p_toSeg {a b p : VZ} (ha : okV 3 a) (hb : okV 3 b) (hp : okV 3 p) : F73 (encV a) (encV b) (encV p) = some (encP (toSegZ a b p)) := by
 have hd := ok_way ha hb
 have hq := ok_way ha hp
 have he := ok_way hb hp
 unfold F73 toSegZ
 rw [p_way ha hb, Option.bind_some, p_way ha hp, Option.bind_some, p_dot hd hd, Option.bind_some, p_dot hd hq, Option.bind_some, p_sign, Option.bind_some, p_cmp (ok_dot hd hq) (ok_dot hd hd) (by omega), Option.bind_some]
 cases h1 : decide (sgn (dotZ (wayZ a b) (wayZ a p)).1 ≤ 0) with
 | true => simp only [h1, cond_true]; rw [p_dot hq hq]; rfl
 | false =>
   cases h2 : decide (0 ≤ cmpZ (dotZ (wayZ a b) (wayZ a p)) (dotZ (wayZ a b) (wayZ a b))) with
   | true => simp only [h1, h2, cond_true, cond_false]; rw [p_way hb hp, Option.bind_some, p_dot he he]; rfl
   | false =>
     simp only [h1, h2, cond_false]
     rw [p_cross hd hq, Option.bind_some, p_mul' (ok_cross hd hq) (ok_cross hd hq) (by omega), Option.bind_some, p_div (mul_ok (ok_cross hd hq) (ok_cross hd hq)) (ok_dot hd hd) (by omega) (cmp_pos (ok_dot hd hq).1 (ok_dot hd hd).1 (of_decide_eq_false h1) (of_decide_eq_false h2))]
     rfl
theorem r_toSeg {a b p : VZ} (ha : okV 3 a) (hb : okV 3 b) (hp : okV 3 p) : F78 (encV a) (encV b) (encV p) = some (encP (toSegZ a b p)) := by
 have hd := ok_way ha hb
 have hq := ok_way ha hp
 have he := ok_way hb hp
 unfold F78 toSegZ
 rw [r_way ha hb, Option.bind_some, r_way ha hp, Option.bind_some, r_dot hd hd, Option.bind_some, r_dot hd hq, Option.bind_some, r_sign, Option.bind_some, r_cmp (ok_dot hd hq) (ok_dot hd hd) (by omega), Option.bind_some]
 cases h1 : decide (sgn (dotZ (wayZ a b) (wayZ a p)).1 ≤ 0) with
 | true => simp only [h1, cond_true]; rw [r_dot hq hq]; rfl
 | false =>
   cases h2 : decide (0 ≤ cmpZ (dotZ (wayZ a b) (wayZ a p)) (dotZ (wayZ a b) (wayZ a b))) with
   | true => simp only [h1, h2, cond_true, cond_false]; rw [r_way hb hp, Option.bind_some, r_dot he he]; rfl
   | false =>
     simp only [h1, h2, cond_false]
     rw [r_cross hd hq, Option.bind_some, r_mul' (ok_cross hd hq) (ok_cross hd hq) (by omega), Option.bind_some, r_div (mul_ok (ok_cross hd hq) (ok_cross hd hq)) (ok_dot hd hd) (by omega) (cmp_pos (ok_dot hd hq).1 (ok_dot hd hd).1 (of_decide_eq_false h1) (of_decide_eq_false h2))]
     rfl
def lessZ (p q : PZ) : PZ := bif decide (cmpZ p q < 0) then p else q
def segsZ (a b c d : VZ) : PZ := bif crossB a b c d then (0, 1) else lessZ (toSegZ c d b) (lessZ (toSegZ c d a) (lessZ (toSegZ a b d) (toSegZ a b c)))
theorem ok_less {n : Nat} {p q : PZ} (hp : okP n p) (hq : okP n q) : okP n (lessZ p q) := by
 unfold lessZ
 cases decide (cmpZ p q < 0) <;> assumption
theorem ok_segs {a b c d : VZ} (ha : okV 3 a) (hb : okV 3 b) (hc : okV 3 c) (hd : okV 3 d) : okP 87 (segsZ a b c d) := by
 unfold segsZ
 cases crossB a b c d with
 | true => exact (ok_int (n := 0) (by unfold int64; omega)).mono (by omega)
 | false => exact ok_less (ok_toSeg hc hd hb) (ok_less (ok_toSeg hc hd ha) (ok_less (ok_toSeg ha hb hd) (ok_toSeg ha hb hc)))
theorem p_segs {a b c d : VZ} (ha : okV 3 a) (hb : okV 3 b) (hc : okV 3 c) (hd : okV 3 d) : F46 (encV a) (encV b) (encV c) (encV d) = some (encP (segsZ a b c d)) := by
 unfold F46 segsZ
 rw [p_crossing ha hb hc hd, Option.bind_some]
 cases crossB a b c d with
 | true => simp only [cond_true]; rw [p_from (by omega)]; rfl
 | false =>
   simp only [cond_false]
   rw [p_toSeg ha hb hc, Option.bind_some, p_toSeg ha hb hd, Option.bind_some, p_toSeg hc hd ha, Option.bind_some, p_toSeg hc hd hb, Option.bind_some]
   have o1 := ok_toSeg ha hb hc
   have o2 := ok_toSeg ha hb hd
   have o3 := ok_toSeg hc hd ha
   have o4 := ok_toSeg hc hd hb
   generalize toSegZ a b c = e1 at *
   generalize toSegZ a b d = e2 at *
   generalize toSegZ c d a = e3 at *
   generalize toSegZ c d b = e4 at *
   show (((F45 (encP e2) (encP e1)).bind fun y => (f46_c1 (decide (y < (0 : Int))) (encP e1) (encP e2)).bind fun s1 => (F45 (encP e3) s1).bind fun y => (f46_c1 (decide (y < (0 : Int))) s1 (encP e3)).bind fun s2 => (F45 (encP e4) s2).bind fun y => (f46_c1 (decide (y < (0 : Int))) s2 (encP e4)).bind fun s3 => some s3).bind fun o => some o) = _
   have k : ∀ (p q : PZ), f46_c1 (decide (cmpZ p q < 0)) (encP q) (encP p) = some (encP (lessZ p q)) := by
    intro p q; unfold f46_c1 lessZ; cases decide (cmpZ p q < 0) <;> rfl
   rw [p_cmp o2 o1 (by omega), Option.bind_some, k, Option.bind_some, p_cmp o3 (ok_less o2 o1) (by omega), Option.bind_some, k, Option.bind_some, p_cmp o4 (ok_less o3 (ok_less o2 o1)) (by omega), Option.bind_some, k, Option.bind_some, Option.bind_some]
theorem r_segs {a b c d : VZ} (ha : okV 3 a) (hb : okV 3 b) (hc : okV 3 c) (hd : okV 3 d) : F51 (encV a) (encV b) (encV c) (encV d) = some (encP (segsZ a b c d)) := by
 unfold F51 segsZ
 rw [r_crossing ha hb hc hd, Option.bind_some]
 cases crossB a b c d with
 | true => simp only [cond_true]; rw [r_from (by omega)]; rfl
 | false =>
   simp only [cond_false]
   rw [r_toSeg ha hb hc, Option.bind_some, r_toSeg ha hb hd, Option.bind_some, r_toSeg hc hd ha, Option.bind_some, r_toSeg hc hd hb, Option.bind_some]
   have o1 := ok_toSeg ha hb hc
   have o2 := ok_toSeg ha hb hd
   have o3 := ok_toSeg hc hd ha
   have o4 := ok_toSeg hc hd hb
   generalize toSegZ a b c = e1 at *
   generalize toSegZ a b d = e2 at *
   generalize toSegZ c d a = e3 at *
   generalize toSegZ c d b = e4 at *
   show (((F32 (encP e2) (encP e1)).bind fun y => (f51_c1 [encP e2, encP e3, encP e4] 0 (decide (y < (0 : Int))) (encP e1)).bind fun s1 => (F32 (encP e3) s1).bind fun y => (f51_c1 [encP e2, encP e3, encP e4] 1 (decide (y < (0 : Int))) s1).bind fun s2 => (F32 (encP e4) s2).bind fun y => (f51_c1 [encP e2, encP e3, encP e4] 2 (decide (y < (0 : Int))) s2).bind fun s3 => some s3).bind fun o => some o) = _
   have k0 : ∀ (q : PZ), f51_c1 [encP e2, encP e3, encP e4] 0 (decide (cmpZ e2 q < 0)) (encP q) = some (encP (lessZ e2 q)) := by
    intro q; unfold f51_c1 lessZ; cases decide (cmpZ e2 q < 0) <;> rfl
   have kc1 : ∀ (q : PZ), f51_c1 [encP e2, encP e3, encP e4] 1 (decide (cmpZ e3 q < 0)) (encP q) = some (encP (lessZ e3 q)) := by
    intro q; unfold f51_c1 lessZ; cases decide (cmpZ e3 q < 0) <;> rfl
   have kc2 : ∀ (q : PZ), f51_c1 [encP e2, encP e3, encP e4] 2 (decide (cmpZ e4 q < 0)) (encP q) = some (encP (lessZ e4 q)) := by
    intro q; unfold f51_c1 lessZ; cases decide (cmpZ e4 q < 0) <;> rfl
   rw [r_cmp o2 o1 (by omega), Option.bind_some, k0, Option.bind_some, r_cmp o3 (ok_less o2 o1) (by omega), Option.bind_some, kc1, Option.bind_some, r_cmp o4 (ok_less o3 (ok_less o2 o1)) (by omega), Option.bind_some, kc2, Option.bind_some, Option.bind_some]
abbrev Clamp := Int × Int × Int × Int × Int
def Z5 : Clamp := ((0 : Int), (0 : Int), (0 : Int), (0 : Int), (0 : Int))
abbrev Setup := Int × Int × Int × Int × Int × Int × (List Clamp) × Int
def clamps (s : Setup) : List Clamp := s.2.2.2.2.2.2.1
def btw (n lo : Int) : Bool := decide (lo ≤ n) && decide (n ≤ (10000000 : Int))
theorem F29_spec (n lo : Int) : F29 n lo = some (btw n lo) := by
 unfold F29 btw
 cases decide (lo ≤ n) <;> rfl
def okR (a b c d : Int) : Bool := decide (a < c) && decide (b < d) && decide ((-10000000 : Int) ≤ a) && decide ((-10000000 : Int) ≤ b) && decide (c ≤ (10000000 : Int)) && decide (d ≤ (10000000 : Int))
theorem F28_spec (a b c d : Int) : F28 a b c d = some (okR a b c d) := by
 unfold F28
 simp only [F29_spec, Option.bind_some]
 have key : okR a b c d = (btw a (-10000000) && btw b (-10000000) && btw c (-10000000) && btw d (-10000000) && decide (a < c) && decide (b < d)) := by
  rw [Bool.eq_iff_iff]
  simp only [okR, btw, Bool.and_eq_true, decide_eq_true_eq]
  omega
 rw [key]
 cases btw a (-10000000) <;> cases btw b (-10000000) <;> cases btw c (-10000000) <;> cases btw d (-10000000) <;> cases decide (a < c) <;> rfl
def clOk (s : Setup) (c : Clamp) : Bool := okR c.1 c.2.1 c.2.2.1 c.2.2.2.1 && btw c.2.2.2.2 (max2i (wrapI .i64 ((wrapI .i64 (0 - s.2.2.2.2.1)) - s.2.2.2.2.2.1)) (-10000000 : Int)) && decide (c.2.2.2.2 < s.2.2.2.2.2.2.2)
def okS (s : Setup) : Bool := okR s.1 s.2.1 s.2.2.1 s.2.2.2.1 && btw s.2.2.2.2.1 1 && btw s.2.2.2.2.2.1 0 && btw s.2.2.2.2.2.2.2 1 && (clamps s).all (clOk s)
theorem f11_l0_spec (s : Setup) (hl : (clamps s).length ≤ 50) : ∀ (n i f : Nat) (b : Bool), i + n = (clamps s).length → n < f → f11_l0 s f (b, (i : Int)) = some (b && ((clamps s).drop i).all (clOk s)) := by
 intro n
 induction n with
 | zero =>
   intro i f b hi hf
   obtain ⟨f, rfl⟩ : ∃ g, f = g + 1 := ⟨f - 1, by omega⟩
   show (bif decide ((i : Int) < ofN (clamps s).length) then _ else _) = _
   rw [dec_nlt (by omega), List.drop_of_length_le (by omega)]
   simp
 | succ n ih =>
   intro i f b hi hf
   obtain ⟨f, rfl⟩ : ∃ g, f = g + 1 := ⟨f - 1, by omega⟩
   have hlt : i < (clamps s).length := by omega
   show (bif decide ((i : Int) < ofN (clamps s).length) then (bif b then _ else _) else _) = _
   rw [dec_lt hlt]
   cases b with
   | false => rfl
   | true =>
     simp only [cond_true]
     rw [gd_true (by omega), gd_true (show (i : Int) < ((List.length s.2.2.2.2.2.2.1 : Nat) : Int) from Int.ofNat_lt.2 (show i < (clamps s).length by omega)), wrap_succ (by omega)]
     simp only [F28_spec, F29_spec, Option.bind_some]
     rw [List.drop_eq_getElem_cons hlt, List.all_cons]
     have e : (clamps s).getD i Z5 = (clamps s)[i] := by simp [List.getD, hlt]
     have ih2 := fun b => ih (i + 1) f b (by omega) (by omega)
     change ∀ b, loopF (f11_l0_b s) f (b, ((i + 1 : Nat) : Int)) = _ at ih2
     simp only [ih2]
     show (bif okR (List.getD (clamps s) i Z5).1 (List.getD (clamps s) i Z5).2.1 (List.getD (clamps s) i Z5).2.2.1 (List.getD (clamps s) i Z5).2.2.2.1 then
      (bif btw (List.getD (clamps s) i Z5).2.2.2.2 (max2i (wrapI .i64 ((wrapI .i64 (0 - s.2.2.2.2.1)) - s.2.2.2.2.2.1)) (-10000000 : Int)) then some (decide ((List.getD (clamps s) i Z5).2.2.2.2 < s.2.2.2.2.2.2.2) && ((clamps s).drop (i + 1)).all (clOk s)) else _) else _) = _
     rw [e]
     generalize (clamps s)[i] = c
     unfold clOk
     cases okR c.1 c.2.1 c.2.2.1 c.2.2.2.1 <;> cases btw c.2.2.2.2 (max2i (wrapI .i64 ((wrapI .i64 (0 - s.2.2.2.2.1)) - s.2.2.2.2.2.1)) (-10000000 : Int)) <;> simp
theorem F11_spec (s : Setup) (hl : (clamps s).length ≤ 50) : F11 s = some (bif okS s then (0 : Int) else 1) := by
 have h0 := fun b => f11_l0_spec s hl (clamps s).length 0 (2 + (clamps s).length) b (by omega) (by omega)
 have fls : ∀ (B : (Bool × Int → Option Bool) → Bool × Int → Option Bool) (f : Nat), (∀ again, B again (false, 0) = some false) → loopF B (2 + f) (false, 0) = some false := by
  intro B f hB
  rw [Nat.add_comm]
  exact hB _
 have e : ∀ {x : Bool} , (bif x then some false else some false) = some false := fun {x} => by cases x <;> rfl
 unfold F11
 simp only [F28_spec, F29_spec, Option.bind_some]
 have g1 : f11_l1 s (2 + List.length s.2.2.2.2.2.2.1) (false, (0 : Int)) = some false := fls _ _ fun again => e
 have g2 : f11_l2 s (2 + List.length s.2.2.2.2.2.2.1) (false, (0 : Int)) = some false := fls _ _ fun again => e
 have g3 : f11_l3 s (2 + List.length s.2.2.2.2.2.2.1) (false, (0 : Int)) = some false := fls _ _ fun again => e
 have g4 : f11_l4 s (2 + List.length s.2.2.2.2.2.2.1) (false, (0 : Int)) = some false := fls _ _ fun again => e
 have g0 : ∀ b, f11_l0 s (2 + List.length s.2.2.2.2.2.2.1) (b, (0 : Int)) = some (b && (clamps s).all (clOk s)) := h0
 rw [g1, g2, g3, g4, g0]
 have e3 : decide (ofN (List.length s.2.2.2.2.2.2.1) ≤ (50 : Int)) = true := by
  rw [show List.length s.2.2.2.2.2.2.1 = (clamps s).length from rfl]
  exact decide_eq_true (by rw [ofN_eq]; omega)
 rw [e3]
 unfold okS
 cases okR s.1 s.2.1 s.2.2.1 s.2.2.2.1 <;> cases btw s.2.2.2.2.1 1 <;> cases btw s.2.2.2.2.2.1 0 <;> cases btw s.2.2.2.2.2.2.2 1 <;> cases (clamps s).all (clOk s) <;> rfl
def lt (p q : PZ) : Bool := decide (cmpZ p q < 0)
theorem lt_iff (p q : PZ) : lt p q = true ↔ p.1 * q.2 < q.1 * p.2 := by
 unfold lt cmpZ cmpI
 rw [decide_eq_true_eq]
 split
 ·omega
 ·split <;> omega
theorem lt_trans' {p q r : PZ} (hp : 0 < p.2) (hq : 0 < q.2) (hr : 0 < r.2) (h1 : q.1 * p.2 ≤ p.1 * q.2) (h2 : p.1 * r.2 < r.1 * p.2) : q.1 * r.2 < r.1 * q.2 := by
 have a1 : (q.1 * p.2) * r.2 ≤ (p.1 * q.2) * r.2 := Int.mul_le_mul_of_nonneg_right h1 (by omega)
 have a2 : (p.1 * r.2) * q.2 < (r.1 * p.2) * q.2 := Int.mul_lt_mul_of_pos_right h2 hq
 have a3 : (q.1 * r.2) * p.2 < (r.1 * q.2) * p.2 := by
  rw [show (q.1 * r.2) * p.2 = (q.1 * p.2) * r.2 by rw [Int.mul_assoc, Int.mul_comm r.2, ← Int.mul_assoc], show (r.1 * q.2) * p.2 = (r.1 * p.2) * q.2 by rw [Int.mul_assoc, Int.mul_comm q.2, ← Int.mul_assoc]]
  rw [show (p.1 * q.2) * r.2 = (p.1 * r.2) * q.2 by rw [Int.mul_assoc, Int.mul_comm q.2, ← Int.mul_assoc]] at a1
  omega
 exact Int.lt_of_mul_lt_mul_right a3 (by omega)
theorem less_lt {p q r : PZ} (hp : 0 < p.2) (hq : 0 < q.2) (hr : 0 < r.2) : lt (lessZ p q) r = (lt p r || lt q r) := by
 rw [Bool.eq_iff_iff, Bool.or_eq_true, lt_iff, lt_iff, lt_iff]
 rw [show lessZ p q = bif lt p q then p else q from rfl]
 cases h : lt p q with
 | true =>
   simp only [cond_true]
   rw [lt_iff] at h
   exact ⟨Or.inl, fun hh => hh.elim id fun h2 => lt_trans' hq hp hr (by omega) h2⟩
 | false =>
   simp only [cond_false]
   have h' : ¬ (p.1 * q.2 < q.1 * p.2) := fun hh => by rw [(lt_iff p q).2 hh] at h; cases h
   exact ⟨Or.inr, fun hh => hh.elim (fun h2 => lt_trans' hp hq hr (by omega) h2) id⟩
theorem sq_eq (r : Int) : mulZ (r, 1) (r, 1) = (r * r, 1) := by
 unfold mulZ redZ
 simp
def p64 (p : Int × Int) : Prop := int64 p.1 ∧ int64 p.2
def cl64 (c : Clamp) : Prop := int64 c.1 ∧ int64 c.2.1 ∧ int64 c.2.2.1 ∧ int64 c.2.2.2.1
def insB (c : Clamp) (p : Int × Int) : Bool := decide (c.1 ≤ p.1) && decide (p.1 ≤ c.2.2.1) && decide (c.2.1 ≤ p.2) && decide (p.2 ≤ c.2.2.2.1)
theorem p_ins (c : Clamp) (p : Int × Int) : F41 c p = some (insB c p) := by
 unfold F41 insB
 cases decide (c.1 ≤ p.1) <;> cases decide (p.1 ≤ c.2.2.1) <;> cases decide (c.2.1 ≤ p.2) <;> rfl
theorem r_ins (c : Clamp) (p : Int × Int) : F49 c p = some (insB c p) := by
 unfold F49 insB
 cases decide (c.1 ≤ p.1) <;> cases decide (p.1 ≤ c.2.2.1) <;> cases decide (c.2.1 ≤ p.2) <;> rfl
def kc1 (c : Clamp) : VZ := intV c.1 c.2.1
def kc2 (c : Clamp) : VZ := intV c.2.2.1 c.2.1
def kc3 (c : Clamp) : VZ := intV c.2.2.1 c.2.2.2.1
def kc4 (c : Clamp) : VZ := intV c.1 c.2.2.2.1
def pt (a : Int × Int) : VZ := intV a.1 a.2
def s1 (c : Clamp) (a b : Int × Int) : PZ := segsZ (pt a) (pt b) (kc1 c) (kc2 c)
def s2 (c : Clamp) (a b : Int × Int) : PZ := segsZ (pt a) (pt b) (kc2 c) (kc3 c)
def s3 (c : Clamp) (a b : Int × Int) : PZ := segsZ (pt a) (pt b) (kc3 c) (kc4 c)
def s4 (c : Clamp) (a b : Int × Int) : PZ := segsZ (pt a) (pt b) (kc4 c) (kc1 c)
def nearB (c : Clamp) (a b : Int × Int) (r : Int) : Bool :=
 insB c a || insB c b || lt (s1 c a b) (r * r, 1) || lt (s2 c a b) (r * r, 1) || lt (s3 c a b) (r * r, 1) || lt (s4 c a b) (r * r, 1)
def farZ (c : Clamp) (a b : Int × Int) : PZ := bif insB c a then (0, 1) else bif insB c b then (0, 1) else lessZ (s4 c a b) (lessZ (s3 c a b) (lessZ (s2 c a b) (s1 c a b)))
theorem ok_k {c : Clamp} (hc : cl64 c) : okV 3 (kc1 c) ∧ okV 3 (kc2 c) ∧ okV 3 (kc3 c) ∧ okV 3 (kc4 c) :=
 ⟨ok_intV hc.1 hc.2.1, ok_intV hc.2.2.1 hc.2.1, ok_intV hc.2.2.1 hc.2.2.2, ok_intV hc.1 hc.2.2.2⟩
theorem ok_s {c : Clamp} {a b : Int × Int} (hc : cl64 c) (ha : p64 a) (hb : p64 b) : okP 87 (s1 c a b) ∧ okP 87 (s2 c a b) ∧ okP 87 (s3 c a b) ∧ okP 87 (s4 c a b) := by
 obtain ⟨h1, h2, h3, h4⟩ := ok_k hc
 have ga : okV 3 (pt a) := ok_intV ha.1 ha.2
 have gb : okV 3 (pt b) := ok_intV hb.1 hb.2
 exact ⟨ok_segs ga gb h1 h2, ok_segs ga gb h2 h3, ok_segs ga gb h3 h4, ok_segs ga gb h4 h1⟩
theorem ok_far {c : Clamp} {a b : Int × Int} (hc : cl64 c) (ha : p64 a) (hb : p64 b) : okP 87 (farZ c a b) := by
 obtain ⟨h1, h2, h3, h4⟩ := ok_s hc ha hb
 have h0 : okP 87 ((0, 1) : PZ) := (ok_int (n := 0) (by unfold int64; omega)).mono (by omega)
 unfold farZ
 cases insB c a with
 | true => exact h0
 | false =>
   cases insB c b with
   | true => exact h0
   | false => exact ok_less h4 (ok_less h3 (ok_less h2 h1))
theorem far_near {c : Clamp} {a b : Int × Int} {r : Int} (hc : cl64 c) (ha : p64 a) (hb : p64 b) (hr : 0 < r) : lt (farZ c a b) (r * r, 1) = nearB c a b r := by
 obtain ⟨h1, h2, h3, h4⟩ := ok_s hc ha hb
 have h0 : lt (0, 1) (r * r, 1) = true := by
  rw [lt_iff]
  have := Int.mul_pos hr hr
  simp only
  omega
 have d : (0 : Int) < ((r * r, 1) : PZ).2 := by simp only; omega
 unfold farZ nearB
 cases insB c a with
 | true => simp only [cond_true, Bool.true_or]; exact h0
 | false =>
   cases insB c b with
   | true => simp only [cond_true, cond_false, Bool.true_or, Bool.false_or]; exact h0
   | false =>
     simp only [cond_false, Bool.false_or]
     rw [less_lt h4.1 (ok_less h3 (ok_less h2 h1)).1 d, less_lt h3.1 (ok_less h2 h1).1 d, less_lt h2.1 h1.1 d]
     generalize lt (s1 c a b) (r * r, 1) = b1
     generalize lt (s2 c a b) (r * r, 1) = b2
     generalize lt (s3 c a b) (r * r, 1) = b3
     generalize lt (s4 c a b) (r * r, 1) = b4
     cases b1 <;> cases b2 <;> cases b3 <;> cases b4 <;> rfl
theorem p_near {c : Clamp} {a b : Int × Int} {r : Int} (hc : cl64 c) (ha : p64 a) (hb : p64 b) (hr : int64 r) : F31 c a b r = some (decide (0 < r) && nearB c a b r) := by
 obtain ⟨h1, h2, h3, h4⟩ := ok_k hc
 have ga : okV 3 (pt a) := ok_intV ha.1 ha.2
 have gb : okV 3 (pt b) := ok_intV hb.1 hb.2
 obtain ⟨o1, o2, o3, o4⟩ := ok_s hc ha hb
 have oq : okP 6 (mulZ (r, 1) (r, 1)) := mul_ok (ok_int hr) (ok_int hr)
 unfold F31
 by_cases h0 : 0 < r
 ·rw [decide_eq_false (show ¬ r ≤ 0 by omega), decide_eq_true h0]
  simp only [cond_false, Bool.true_and]
  rw [p_ins, Option.bind_some, p_ins, Option.bind_some]
  unfold nearB
  cases insB c a with
  | true => rfl
  | false =>
    cases insB c b with
    | true => rfl
    | false =>
      simp only [cond_false, Bool.false_or]
      rw [p_from hr, Option.bind_some, p_mul (ok_int hr) (ok_int hr) (by omega), Option.bind_some, p_vec ha.1 ha.2, Option.bind_some, p_vec hb.1 hb.2, Option.bind_some,
       p_vec hc.1 hc.2.1, Option.bind_some, p_vec hc.2.2.1 hc.2.1, Option.bind_some, p_vec hc.2.2.1 hc.2.2.2, Option.bind_some, p_vec hc.1 hc.2.2.2, Option.bind_some]
      show (((F46 (encV (pt a)) (encV (pt b)) (encV (kc1 c)) (encV (kc2 c))).bind fun y => (F45 y (encP (mulZ (r, 1) (r, 1)))).bind fun y20 => (bif (decide (y20 < (0 : Int))) then some (.inr true) else
       (F46 (encV (pt a)) (encV (pt b)) (encV (kc2 c)) (encV (kc3 c))).bind fun y => (F45 y (encP (mulZ (r, 1) (r, 1)))).bind fun y20 => (bif (decide (y20 < (0 : Int))) then some (.inr true) else
       (F46 (encV (pt a)) (encV (pt b)) (encV (kc3 c)) (encV (kc4 c))).bind fun y => (F45 y (encP (mulZ (r, 1) (r, 1)))).bind fun y20 => (bif (decide (y20 < (0 : Int))) then some (.inr true) else
       (F46 (encV (pt a)) (encV (pt b)) (encV (kc4 c)) (encV (kc1 c))).bind fun y => (F45 y (encP (mulZ (r, 1) (r, 1)))).bind fun y20 => (bif (decide (y20 < (0 : Int))) then some (.inr true) else some (.inl ()))))) : Option (Unit ⊕ Bool)).bind fun o21 => match o21 with | .inl _ => some false | .inr o23 => some o23) = _
      rw [p_segs ga gb h1 h2, Option.bind_some, p_segs ga gb h2 h3, Option.bind_some, p_segs ga gb h3 h4, Option.bind_some, p_segs ga gb h4 h1, Option.bind_some]
      have e1 := p_cmp o1 oq (by omega)
      have e2 := p_cmp o2 oq (by omega)
      have e3 := p_cmp o3 oq (by omega)
      have e4 := p_cmp o4 oq (by omega)
      change F45 (encP (segsZ (pt a) (pt b) (kc1 c) (kc2 c))) _ = _ at e1
      change F45 (encP (segsZ (pt a) (pt b) (kc2 c) (kc3 c))) _ = _ at e2
      change F45 (encP (segsZ (pt a) (pt b) (kc3 c) (kc4 c))) _ = _ at e3
      change F45 (encP (segsZ (pt a) (pt b) (kc4 c) (kc1 c))) _ = _ at e4
      rw [e1, Option.bind_some, e2, Option.bind_some, e3, Option.bind_some, e4, Option.bind_some, sq_eq]
      show (((bif lt (s1 c a b) (r * r, 1) then some (.inr true) else bif lt (s2 c a b) (r * r, 1) then some (.inr true) else bif lt (s3 c a b) (r * r, 1) then some (.inr true) else bif lt (s4 c a b) (r * r, 1) then some (.inr true) else some (.inl ())) : Option (Unit ⊕ Bool)).bind fun o21 => match o21 with | .inl _ => some false | .inr o23 => some o23) = _
      generalize lt (s1 c a b) (r * r, 1) = b1
      generalize lt (s2 c a b) (r * r, 1) = b2
      generalize lt (s3 c a b) (r * r, 1) = b3
      generalize lt (s4 c a b) (r * r, 1) = b4
      cases b1 <;> cases b2 <;> cases b3 <;> cases b4 <;> rfl
 ·rw [decide_eq_true (show r ≤ 0 by omega), decide_eq_false h0]
  rfl
theorem r_far {c : Clamp} {a b : Int × Int} (hc : cl64 c) (ha : p64 a) (hb : p64 b) : F33 c a b = some (encP (farZ c a b)) := by
 obtain ⟨h1, h2, h3, h4⟩ := ok_k hc
 have ga : okV 3 (pt a) := ok_intV ha.1 ha.2
 have gb : okV 3 (pt b) := ok_intV hb.1 hb.2
 obtain ⟨o1, o2, o3, o4⟩ := ok_s hc ha hb
 unfold F33 farZ
 rw [r_ins, Option.bind_some, r_ins, Option.bind_some, r_from (show -9223372036854775808 ≤ (0 : Int) ∧ (0 : Int) ≤ 9223372036854775807 by omega), Option.bind_some]
 cases insB c a with
 | true => rfl
 | false =>
   cases insB c b with
   | true => rfl
   | false =>
     simp only [cond_false]
     rw [r_vec hc.1 hc.2.1, Option.bind_some, r_vec hc.2.2.1 hc.2.1, Option.bind_some, r_vec hc.2.2.1 hc.2.2.2, Option.bind_some, r_vec hc.1 hc.2.2.2, Option.bind_some]
     show ((((F50 a.1 a.2).bind fun v => (F50 b.1 b.2).bind fun w => (F51 v w (encV (kc1 c)) (encV (kc2 c))).bind fun t1 =>
      (F50 a.1 a.2).bind fun v => (F50 b.1 b.2).bind fun w => (F51 v w (encV (kc2 c)) (encV (kc3 c))).bind fun y => (F32 y t1).bind fun z => (f33_c1 (decide (z < (0 : Int))) t1 y).bind fun t2 =>
      (F50 a.1 a.2).bind fun v => (F50 b.1 b.2).bind fun w => (F51 v w (encV (kc3 c)) (encV (kc4 c))).bind fun y => (F32 y t2).bind fun z => (f33_c1 (decide (z < (0 : Int))) t2 y).bind fun t3 =>
      (F50 a.1 a.2).bind fun v => (F50 b.1 b.2).bind fun w => (F51 v w (encV (kc4 c)) (encV (kc1 c))).bind fun y => (F32 y t3).bind fun z => (f33_c1 (decide (z < (0 : Int))) t3 y).bind fun t4 => some t4)).bind fun o => some o) = _
     have k : ∀ (p q : PZ), f33_c1 (decide (cmpZ p q < 0)) (encP q) (encP p) = some (encP (lessZ p q)) := by
      intro p q; unfold f33_c1 lessZ; cases decide (cmpZ p q < 0) <;> rfl
     rw [r_vec ha.1 ha.2, Option.bind_some, r_vec hb.1 hb.2, Option.bind_some]
     change okV 3 (intV a.1 a.2) at ga
     change okV 3 (intV b.1 b.2) at gb
     have e1 := r_segs ga gb h1 h2
     have e2 := r_segs ga gb h2 h3
     have e3 := r_segs ga gb h3 h4
     have e4 := r_segs ga gb h4 h1
     rw [e1, Option.bind_some, Option.bind_some, Option.bind_some, e2, Option.bind_some]
     have f2 := r_cmp o2 o1 (by omega)
     have f3 := r_cmp o3 (ok_less o2 o1) (by omega)
     have f4 := r_cmp o4 (ok_less o3 (ok_less o2 o1)) (by omega)
     change F32 (encP (segsZ (intV a.1 a.2) (intV b.1 b.2) (kc2 c) (kc3 c))) (encP (segsZ (intV a.1 a.2) (intV b.1 b.2) (kc1 c) (kc2 c))) = _ at f2
     change F32 (encP (segsZ (intV a.1 a.2) (intV b.1 b.2) (kc3 c) (kc4 c))) _ = _ at f3
     change F32 (encP (segsZ (intV a.1 a.2) (intV b.1 b.2) (kc4 c) (kc1 c))) _ = _ at f4
     rw [f2, Option.bind_some]
     have g2 := k (s2 c a b) (s1 c a b)
     have g3 := k (s3 c a b) (lessZ (s2 c a b) (s1 c a b))
     have g4 := k (s4 c a b) (lessZ (s3 c a b) (lessZ (s2 c a b) (s1 c a b)))
     change f33_c1 _ (encP (segsZ (intV a.1 a.2) (intV b.1 b.2) (kc1 c) (kc2 c))) (encP (segsZ (intV a.1 a.2) (intV b.1 b.2) (kc2 c) (kc3 c))) = _ at g2
     change f33_c1 _ _ (encP (segsZ (intV a.1 a.2) (intV b.1 b.2) (kc3 c) (kc4 c))) = _ at g3
     change f33_c1 _ _ (encP (segsZ (intV a.1 a.2) (intV b.1 b.2) (kc4 c) (kc1 c))) = _ at g4
     rw [g2, Option.bind_some, Option.bind_some, Option.bind_some, e3, Option.bind_some, f3, Option.bind_some, g3, Option.bind_some, Option.bind_some, Option.bind_some, e4, Option.bind_some, f4, Option.bind_some, g4]
     rfl
def hiStep (near : Clamp → Bool) (s : Int × Bool) (c : Clamp) : Int × Bool :=
 bif near c then (bif !s.2 then (c.2.2.2.2, true) else bif decide (s.1 < c.2.2.2.2) then (c.2.2.2.2, true) else s) else s
def hi (near : Clamp → Bool) (l : List Clamp) : Int × Bool := l.foldl (hiStep near) (0, false)
theorem take_next {α β : Type} (f : β → α → β) (l : List α) (b : β) (d : α) {i : Nat} (hi : i < l.length) : (l.take (i + 1)).foldl f b = f ((l.take i).foldl f b) (l.getD i d) := by
 have e : l.getD i d = l[i] := by simp [List.getD, hi]
 rw [e, List.take_succ_eq_append_getElem hi, List.foldl_append]
 rfl
theorem loop_fold {α S σ R : Type} (mk : Nat → S → σ) (B : (σ → Option R) → σ → Option R) (l : List α) (d : α) (f : S → α → S) (fin : S → R)
 (hB : ∀ (again : σ → Option R) (i : Nat) s, i < l.length → B again (mk i s) = again (mk (i + 1) (f s (l.getD i d))))
 (hE : ∀ (again : σ → Option R) s, B again (mk l.length s) = some (fin s)) (s0 : S) (g : Nat) (hg : l.length < g) :
 loopF B g (mk 0 s0) = some (fin (l.foldl f s0)) := by
 obtain ⟨r, h1, h2⟩ := loop_ex mk B l.length (fun i s => s = (l.take i).foldl f s0) (fun r => r = fin (l.foldl f s0))
  (fun i s hi hs => .inl ⟨f s (l.getD i d), by rw [take_next f l s0 d hi, hs], fun again => hB again i s hi⟩)
  (fun s hs => ⟨fin s, by rw [hs, List.take_length], fun again => hE again s⟩)
  l.length 0 g s0 (by omega) hg rfl
 rw [h2, h1]
theorem getD_mem' {α : Type} {l : List α} {i : Nat} {d : α} (h : i < l.length) : l.getD i d ∈ l := by
 have e : l.getD i d = l[i] := by simp [List.getD, h]
 rw [e]; exact List.getElem_mem h
def nearR (a b : Int × Int) (r : Int) (c : Clamp) : Bool := decide (0 < r) && nearB c a b r
theorem F13_spec {s : Setup} {a b : Int × Int} {r : Int} (hl : (clamps s).length ≤ 1000) (hc : ∀ c ∈ clamps s, cl64 c) (ha : p64 a) (hb : p64 b) (hr : int64 r) :
 F13 s a b r = some (hi (nearR a b r) (clamps s)) := by
 have h := loop_fold (fun (i : Nat) (s : Int × Bool) => (s.1, s.2, (i : Int))) (f13_l0_b r (clamps s) (ofN (clamps s).length) a b) (clamps s) Z5 (hiStep (nearR a b r)) id
  (fun again i s' hi => by
    unfold f13_l0_b
    show (bif decide ((i : Int) < _) then _ else _) = _
    rw [dec_lt hi]
    simp only [cond_true]
    rw [gd_true (by omega), gd_true (by omega), wrap_succ (by omega)]
    show ((F31 (List.getD (clamps s) i Z5) a b r).bind fun y21 => (bif y21 then (bif (!s'.2) then again ((List.getD (clamps s) i Z5).2.2.2.2, true, ((i + 1 : Nat) : Int)) else
     ((f13_c1 s'.1 s'.2 (decide (s'.1 < (List.getD (clamps s) i Z5).2.2.2.2)) (List.getD (clamps s) i Z5)).bind fun o32 => again (o32.1, o32.2, ((i + 1 : Nat) : Int)))) else again (s'.1, s'.2, ((i + 1 : Nat) : Int)))) = _
    rw [p_near (hc _ (getD_mem' hi)) ha hb hr, Option.bind_some]
    generalize List.getD (clamps s) i Z5 = c
    show (bif nearR a b r c then _ else _) = _
    unfold f13_c1 hiStep
    obtain ⟨u, v⟩ := s'
    simp only
    cases nearR a b r c <;> cases v <;> cases decide (u < c.2.2.2.2) <;> rfl)
  (fun again s' => by unfold f13_l0_b; show (bif decide (((clamps s).length : Int) < _) then _ else _) = _; rw [dec_nlt (Nat.le_refl _)]; rfl)
  (0, false) (2 + (clamps s).length) (by omega)
 unfold F13
 have h' : f13_l0 r s.2.2.2.2.2.2.1 (ofN (List.length s.2.2.2.2.2.2.1)) a b (2 + List.length s.2.2.2.2.2.2.1) ((0 : Int), false, (0 : Int)) = _ := h
 rw [h']
 rfl
theorem F14_spec {s : Setup} {a b : Int × Int} {r : Int} (hl : (clamps s).length ≤ 1000) (hc : ∀ c ∈ clamps s, cl64 c) (ha : p64 a) (hb : p64 b) (hr : int64 r) :
 F14 s a b r = some (hi (nearR a b r) (clamps s)) := by
 have h := loop_fold (fun (i : Nat) (s : Int × Bool) => (s.1, s.2, (i : Int))) (f14_l0_b r s a b) (clamps s) Z5 (hiStep (nearR a b r)) id
  (fun again i s' hi => by
    unfold f14_l0_b
    show (bif decide ((i : Int) < ofN (clamps s).length) then _ else _) = _
    rw [dec_lt hi]
    simp only [cond_true]
    rw [gd_true (by omega), gd_true (show (i : Int) < ((List.length s.2.2.2.2.2.2.1 : Nat) : Int) from Int.ofNat_lt.2 (show i < (clamps s).length by omega)), wrap_succ (by omega)]
    show (bif decide (0 < r) then ((F33 (List.getD (clamps s) i Z5) a b).bind fun y18 => (F35 r).bind fun y19 => (F34 y19).bind fun y20 => (F32 y18 y20).bind fun y21 => (bif decide (y21 < (0 : Int)) then (bif (!s'.2) then again ((List.getD (clamps s) i Z5).2.2.2.2, true, ((i + 1 : Nat) : Int)) else
     ((f14_c1 s'.1 s'.2 (decide (s'.1 < (List.getD (clamps s) i Z5).2.2.2.2)) (List.getD (clamps s) i Z5)).bind fun o32 => again (o32.1, o32.2, ((i + 1 : Nat) : Int)))) else again (s'.1, s'.2, ((i + 1 : Nat) : Int)))) else again (s'.1, s'.2, ((i + 1 : Nat) : Int))) = _
    have hcc := hc _ (getD_mem' (d := Z5) hi)
    generalize List.getD (clamps s) i Z5 = c at *
    by_cases h0 : 0 < r
    ·rw [r_far hcc ha hb, Option.bind_some, r_from hr, Option.bind_some]
     unfold F34
     rw [r_mul (ok_int hr) (ok_int hr) (by omega), Option.bind_some, Option.bind_some, r_cmp (ok_far hcc ha hb) (mul_ok (ok_int hr) (ok_int hr)) (by omega), Option.bind_some, sq_eq]
     show (bif decide (0 < r) then (bif lt (farZ c a b) (r * r, 1) then _ else _) else _) = _
     rw [far_near hcc ha hb h0]
     unfold f14_c1 hiStep nearR
     rw [decide_eq_true h0]
     obtain ⟨u, v⟩ := s'
     simp only [Bool.true_and]
     cases nearB c a b r <;> cases v <;> cases decide (u < c.2.2.2.2) <;> rfl
    ·rw [decide_eq_false h0]
     unfold hiStep nearR
     simp only [decide_eq_false h0, Bool.false_and, cond_false])
  (fun again s' => by unfold f14_l0_b; show (bif decide (((clamps s).length : Int) < ofN (clamps s).length) then _ else _) = _; rw [dec_nlt (Nat.le_refl _)]; rfl)
  (0, false) (2 + (clamps s).length) (by omega)
 unfold F14
 have h' : f14_l0 r s a b (2 + List.length s.2.2.2.2.2.2.1) ((0 : Int), false, (0 : Int)) = _ := h
 rw [h']
 rfl
theorem sqn (x : Int) : 0 ≤ x * x := by
 rcases Int.le_total 0 x with h | h
 ·exact Int.mul_nonneg h h
 ·exact Int.mul_nonneg_of_nonpos_of_nonpos h h
theorem red_one (a : Int) : redZ a 1 = (a, 1) := by
 unfold redZ
 rw [if_neg (by omega)]
 have h : Int.gcd a 1 = 1 := by simp
 rw [h]
 simp
theorem add_int (x y : Int) : addZ (x, 1) (y, 1) = (x + y, 1) := by
 unfold addZ
 simp only [Int.mul_one]
 exact red_one _
theorem sub_int (x y : Int) : subZ (x, 1) (y, 1) = (x - y, 1) := by
 unfold subZ negZ
 rw [add_int]
 rfl
theorem mul_int (x y : Int) : mulZ (x, 1) (y, 1) = (x * y, 1) := by
 unfold mulZ
 simp only [Int.mul_one]
 exact red_one _
theorem way_int (a b : Int × Int) : wayZ (pt a) (pt b) = intV (b.1 - a.1) (b.2 - a.2) := by
 unfold wayZ pt intV
 simp only [sub_int]
theorem dot_int (x y u v : Int) : dotZ (intV x y) (intV u v) = (x * u + y * v, 1) := by
 unfold dotZ intV
 simp only [mul_int, add_int]
theorem cross_int (x y u v : Int) : crossZ (intV x y) (intV u v) = (x * v - y * u, 1) := by
 unfold crossZ intV
 simp only [mul_int, sub_int]
theorem sgn_le (t : Int) : sgn t ≤ 0 ↔ t ≤ 0 := by
 unfold sgn
 split
 ·omega
 ·split <;> omega
theorem cmpI_ge (x y : Int) : 0 ≤ cmpI x y ↔ y ≤ x := by
 unfold cmpI
 split
 ·omega
 ·split <;> omega
theorem lt_red {N D R : Int} (hD : 0 < D) : lt (redZ N D) (R, 1) = true ↔ N < R * D := by
 rw [lt_iff]
 unfold redZ
 rw [if_neg (by omega)]
 have hgp : (0 : Int) < ((Int.gcd N D : Nat) : Int) := by
  have : 0 < Int.gcd N D := Int.gcd_pos_of_ne_zero_right N (by omega)
  omega
 have e1 : ((Int.gcd N D : Nat) : Int) * (N / (Int.gcd N D : Nat)) = N := Int.mul_ediv_cancel' (Int.gcd_dvd_left ..)
 have e2 : ((Int.gcd N D : Nat) : Int) * (D / (Int.gcd N D : Nat)) = D := Int.mul_ediv_cancel' (Int.gcd_dvd_right ..)
 generalize ((Int.gcd N D : Nat) : Int) = g at *
 generalize N / g = n at *
 generalize D / g = d at *
 subst e1
 subst e2
 simp only [Int.mul_one]
 rw [show R * (g * d) = g * (R * d) by grind]
 exact (Int.mul_lt_mul_left hgp).symm
def segB (a b p : Int × Int) (R : Int) : Prop :=
 if (b.1 - a.1) * (p.1 - a.1) + (b.2 - a.2) * (p.2 - a.2) ≤ 0 then (p.1 - a.1) * (p.1 - a.1) + (p.2 - a.2) * (p.2 - a.2) < R
 else if (b.1 - a.1) * (b.1 - a.1) + (b.2 - a.2) * (b.2 - a.2) ≤ (b.1 - a.1) * (p.1 - a.1) + (b.2 - a.2) * (p.2 - a.2) then (p.1 - b.1) * (p.1 - b.1) + (p.2 - b.2) * (p.2 - b.2) < R
 else ((b.1 - a.1) * (p.2 - a.2) - (b.2 - a.2) * (p.1 - a.1)) * ((b.1 - a.1) * (p.2 - a.2) - (b.2 - a.2) * (p.1 - a.1)) < R * ((b.1 - a.1) * (b.1 - a.1) + (b.2 - a.2) * (b.2 - a.2))
theorem lt_int (x R : Int) : lt (x, 1) (R, 1) = true ↔ x < R := by
 rw [lt_iff]
 simp
theorem seg_iff (a b p : Int × Int) (R : Int) : lt (toSegZ (pt a) (pt b) (pt p)) (R, 1) = true ↔ segB a b p R := by
 unfold toSegZ segB
 simp only [way_int, dot_int, cross_int, mul_int]
 generalize (b.1 - a.1) * (p.1 - a.1) + (b.2 - a.2) * (p.2 - a.2) = t
 by_cases h1 : t ≤ 0
 ·rw [decide_eq_true ((sgn_le t).2 h1), if_pos h1]
  exact lt_int _ _
 ·rw [decide_eq_false (fun h => h1 ((sgn_le t).1 h)), if_neg h1, cond_false]
  have hc : ∀ n : Int, (0 ≤ cmpZ (t, 1) (n, 1)) ↔ n ≤ t := fun n => by unfold cmpZ; rw [cmpI_ge]; simp
  generalize hn : (b.1 - a.1) * (b.1 - a.1) + (b.2 - a.2) * (b.2 - a.2) = n
  by_cases h2 : n ≤ t
  ·rw [decide_eq_true ((hc n).2 h2), if_pos h2, cond_true]
   exact lt_int _ _
  ·rw [decide_eq_false (fun h => h2 ((hc n).1 h)), if_neg h2, cond_false]
   unfold divZ
   simp only [Int.mul_one, Int.one_mul]
   exact lt_red (by omega)
theorem segB_sym {a b p : Int × Int} {R : Int} : segB a b p R ↔ segB b a p R := by
 obtain ⟨ax, ay⟩ := a
 obtain ⟨bx, by'⟩ := b
 obtain ⟨px, py⟩ := p
 unfold segB
 simp only
 have e1 : (ax - bx) * (px - bx) + (ay - by') * (py - by') = ((bx - ax) * (bx - ax) + (by' - ay) * (by' - ay)) - ((bx - ax) * (px - ax) + (by' - ay) * (py - ay)) := by grind
 have e2 : (ax - bx) * (ax - bx) + (ay - by') * (ay - by') = (bx - ax) * (bx - ax) + (by' - ay) * (by' - ay) := by grind
 have e3 : (ax - bx) * (py - by') - (ay - by') * (px - bx) = -((bx - ax) * (py - ay) - (by' - ay) * (px - ax)) := by grind
 have e4 : (px - bx) * (px - bx) + (py - by') * (py - by') = ((px - ax) * (px - ax) + (py - ay) * (py - ay)) - 2 * ((bx - ax) * (px - ax) + (by' - ay) * (py - ay)) + ((bx - ax) * (bx - ax) + (by' - ay) * (by' - ay)) := by grind
 have hn : 0 ≤ (bx - ax) * (bx - ax) + (by' - ay) * (by' - ay) := by
  have h1 := sqn (bx - ax)
  have h2 := sqn (by' - ay)
  omega
 have key0 : (bx - ax) * (bx - ax) + (by' - ay) * (by' - ay) = 0 → (bx - ax) * (px - ax) + (by' - ay) * (py - ay) = 0 := by
  intro h
  have h1 := sqn (bx - ax)
  have h2 := sqn (by' - ay)
  have h3 : bx - ax = 0 := by
   have : (bx - ax) * (bx - ax) = 0 := by omega
   exact (Int.mul_eq_zero.1 this).elim id id
  have h4 : by' - ay = 0 := by
   have : (by' - ay) * (by' - ay) = 0 := by omega
   exact (Int.mul_eq_zero.1 this).elim id id
  rw [h3, h4]; simp
 rw [e1, e2, e3, e4, Int.neg_mul_neg]
 generalize (bx - ax) * (px - ax) + (by' - ay) * (py - ay) = t at *
 generalize (bx - ax) * (bx - ax) + (by' - ay) * (by' - ay) = n at *
 generalize (px - ax) * (px - ax) + (py - ay) * (py - ay) = q at *
 by_cases h1 : t ≤ 0
 ·rw [if_pos h1]
  by_cases h2 : n - t ≤ 0
  ·rw [if_pos h2]
   have hn0 : n = 0 := by omega
   have := key0 hn0
   omega
  ·rw [if_neg h2, if_pos (by omega)]
 ·rw [if_neg h1]
  by_cases h2 : n ≤ t
  ·rw [if_pos h2, if_pos (by omega)]
  ·rw [if_neg h2, if_neg (by omega), if_neg (by omega)]
def edge (a b c d : Int × Int) (R : Int) : Prop := (crossB (pt a) (pt b) (pt c) (pt d) = true ∧ 0 < R) ∨ (crossB (pt a) (pt b) (pt c) (pt d) = false ∧ (segB c d b R ∨ segB c d a R ∨ segB a b d R ∨ segB a b c R))
theorem ok_pt {a : Int × Int} (h : p64 a) : okV 3 (pt a) := ok_intV h.1 h.2
theorem segs_iff {a b c d : Int × Int} (ha : p64 a) (hb : p64 b) (hc : p64 c) (hd : p64 d) (R : Int) : lt (segsZ (pt a) (pt b) (pt c) (pt d)) (R, 1) = true ↔ edge a b c d R := by
 have oa := ok_pt ha
 have ob := ok_pt hb
 have oc := ok_pt hc
 have od := ok_pt hd
 unfold segsZ edge
 cases crossB (pt a) (pt b) (pt c) (pt d) with
 | true => simp only [cond_true, lt_int]; simp
 | false =>
   have o1 := ok_toSeg oa ob oc
   have o2 := ok_toSeg oa ob od
   have o3 := ok_toSeg oc od oa
   have o4 := ok_toSeg oc od ob
   simp only [cond_false]
   rw [less_lt o4.1 (ok_less o3 (ok_less o2 o1)).1 (by omega), less_lt o3.1 (ok_less o2 o1).1 (by omega), less_lt o2.1 o1.1 (by omega)]
   simp only [Bool.or_eq_true, seg_iff, Bool.false_eq_true, false_and, true_and, false_or]
theorem side_int (a b c : Int × Int) : sideZ (pt a) (pt b) (pt c) = sgn ((b.1 - a.1) * (c.2 - a.2) - (b.2 - a.2) * (c.1 - a.1)) := by
 unfold sideZ
 rw [way_int, way_int, cross_int]
theorem sgn_neg (x : Int) : sgn (-x) = -sgn x := by
 unfold sgn
 by_cases h1 : x < 0
 ·rw [if_pos h1, if_neg (by omega), if_pos (by omega)]; rfl
 ·rw [if_neg h1]
  by_cases h2 : 0 < x
  ·rw [if_pos h2, if_pos (by omega)]
  ·rw [if_neg h2, if_neg (by omega), if_neg (by omega)]; rfl
theorem apart_neg (x y : Int) : apart (-x) (-y) = apart x y := by unfold apart; rw [Int.neg_mul_neg]
theorem apart_comm (x y : Int) : apart x y = apart y x := by unfold apart; rw [Int.mul_comm]
theorem side_swap (a b c : Int × Int) : sideZ (pt b) (pt a) (pt c) = -sideZ (pt a) (pt b) (pt c) := by
 rw [side_int, side_int, ← sgn_neg]
 congr 1
 grind
theorem cross_sym (a b c d : Int × Int) : crossB (pt b) (pt a) (pt c) (pt d) = crossB (pt a) (pt b) (pt c) (pt d) := by
 unfold crossB
 rw [side_swap a b c, side_swap a b d, apart_neg, apart_comm (sideZ (pt c) (pt d) (pt b))]
theorem edge_sym {a b c d : Int × Int} {R : Int} (h : edge a b c d R) : edge b a c d R := by
 unfold edge at *
 rw [cross_sym]
 rcases h with h | ⟨h, h2⟩
 ·exact .inl h
 ·refine .inr ⟨h, ?_⟩
  rcases h2 with h2 | h2 | h2 | h2
  ·exact .inr (.inl h2)
  ·exact .inl h2
  ·exact .inr (.inr (.inl (segB_sym.1 h2)))
  ·exact .inr (.inr (.inr (segB_sym.1 h2)))
def q1 (c : Clamp) : Int × Int := (c.1, c.2.1)
def q2 (c : Clamp) : Int × Int := (c.2.2.1, c.2.1)
def q3 (c : Clamp) : Int × Int := (c.2.2.1, c.2.2.2.1)
def q4 (c : Clamp) : Int × Int := (c.1, c.2.2.2.1)
def nearP (c : Clamp) (a b : Int × Int) (R : Int) : Prop := insB c a = true ∨ insB c b = true ∨ edge a b (q1 c) (q2 c) R ∨ edge a b (q2 c) (q3 c) R ∨ edge a b (q3 c) (q4 c) R ∨ edge a b (q4 c) (q1 c) R
theorem near_iff {c : Clamp} {a b : Int × Int} (hc : cl64 c) (ha : p64 a) (hb : p64 b) (r : Int) : nearB c a b r = true ↔ nearP c a b (r * r) := by
 have h1 : p64 (q1 c) := ⟨hc.1, hc.2.1⟩
 have h2 : p64 (q2 c) := ⟨hc.2.2.1, hc.2.1⟩
 have h3 : p64 (q3 c) := ⟨hc.2.2.1, hc.2.2.2⟩
 have h4 : p64 (q4 c) := ⟨hc.1, hc.2.2.2⟩
 have e1 : lt (s1 c a b) (r * r, 1) = true ↔ edge a b (q1 c) (q2 c) (r * r) := segs_iff ha hb h1 h2 _
 have e2 : lt (s2 c a b) (r * r, 1) = true ↔ edge a b (q2 c) (q3 c) (r * r) := segs_iff ha hb h2 h3 _
 have e3 : lt (s3 c a b) (r * r, 1) = true ↔ edge a b (q3 c) (q4 c) (r * r) := segs_iff ha hb h3 h4 _
 have e4 : lt (s4 c a b) (r * r, 1) = true ↔ edge a b (q4 c) (q1 c) (r * r) := segs_iff ha hb h4 h1 _
 unfold nearB nearP
 simp only [Bool.or_eq_true, e1, e2, e3, e4]
 grind
theorem nearP_sym {c : Clamp} {a b : Int × Int} {R : Int} (h : nearP c a b R) : nearP c b a R := by
 unfold nearP at *
 rcases h with h | h | h | h | h | h
 ·exact .inr (.inl h)
 ·exact .inl h
 ·exact .inr (.inr (.inl (edge_sym h)))
 ·exact .inr (.inr (.inr (.inl (edge_sym h))))
 ·exact .inr (.inr (.inr (.inr (.inl (edge_sym h)))))
 ·exact .inr (.inr (.inr (.inr (.inr (edge_sym h)))))
theorem hi_congr {f g : Clamp → Bool} {l : List Clamp} (h : ∀ c ∈ l, f c = g c) : hi f l = hi g l := by
 unfold hi
 have key : ∀ (l : List Clamp) (s : Int × Bool), (∀ c ∈ l, f c = g c) → l.foldl (hiStep f) s = l.foldl (hiStep g) s := by
  intro l
  induction l with
  | nil => intro s _; rfl
  | cons c l ih =>
    intro s h
    rw [List.foldl_cons, List.foldl_cons]
    have : hiStep f s c = hiStep g s c := by unfold hiStep; rw [h c (List.mem_cons_self ..)]
    rw [this]
    exact ih _ fun x hx => h x (List.mem_cons_of_mem _ hx)
 exact key l _ h
theorem i64_of {n : Int} (h : IntKind.min .i64 ≤ n ∧ n ≤ IntKind.max .i64) : int64 n := by
 have h1 : IntKind.min .i64 = -9223372036854775808 := by decide
 have h2 : IntKind.max .i64 = 9223372036854775807 := by decide
 rw [h1, h2] at h
 exact h
theorem cl_of {s : Setup} (h : okD t23 s) : ∀ c ∈ clamps s, cl64 c := by
 intro c hc
 obtain ⟨_, _, _, _, _, _, h7, _⟩ := h
 have := h7 c hc
 obtain ⟨g1, g2, g3, g4, _⟩ := this
 exact ⟨i64_of g1, i64_of g2, i64_of g3, i64_of g4⟩
theorem pts_of {l : (Int × Int) × (Int × Int)} (h : okD t33 l) : p64 l.1 ∧ p64 l.2 := by
 obtain ⟨h1, h2⟩ := h
 obtain ⟨g1, g2⟩ := h1
 obtain ⟨g3, g4⟩ := h2
 exact ⟨⟨i64_of g1, i64_of g2⟩, ⟨i64_of g3, i64_of g4⟩⟩
theorem F15_some (s : Setup) : ∃ r, F15 s = some r ∧ (r = true → (clamps s).length ≤ 4) := by
 unfold F15
 show ∃ r, (bif decide (((clamps s).length : Int) ≤ 4) then (F11 s).bind fun y1 => some (y1 == 0) else some false) = some r ∧ _
 by_cases h : (clamps s).length ≤ 4
 ·rw [bif_true (decide_eq_true (by omega)), F11_spec s (by omega)]
  exact ⟨_, rfl, fun _ => h⟩
 ·rw [bif_false (decide_eq_false (by omega))]
  exact ⟨_, rfl, fun h => by cases h⟩
theorem F30_some (p : Int × Int) : ∃ r, F30 p = some r := by
 unfold F30
 cases decide ((wrapI .i64 (0 - (40000000 : Int))) ≤ p.1) <;> cases decide (p.1 ≤ (40000000 : Int)) <;> cases decide ((wrapI .i64 (0 - (40000000 : Int))) ≤ p.2) <;> exact ⟨_, rfl⟩
theorem F12_some (s : Setup) (l : (Int × Int) × (Int × Int)) (r : Int) : ∃ b, F12 s l r = some b ∧ (b = true → (clamps s).length ≤ 4 ∧ r ≤ 40000000) := by
 unfold F12
 obtain ⟨b1, h1, k1⟩ := F15_some s
 obtain ⟨b2, h2⟩ := F30_some l.1
 obtain ⟨b3, h3⟩ := F30_some l.2
 rw [h1, h2, h3]
 cases b1 with
 | false => exact ⟨_, rfl, fun h => by cases h⟩
 | true =>
   cases b2 with
   | false => exact ⟨_, rfl, fun h => by cases h⟩
   | true =>
     cases b3 with
     | false => exact ⟨_, rfl, fun h => by cases h⟩
     | true => exact ⟨_, rfl, fun h => ⟨k1 rfl, of_decide_eq_true h⟩⟩
theorem near_sym {s : Setup} (hc : ∀ c ∈ clamps s, cl64 c) {a b : Int × Int} (ha : p64 a) (hb : p64 b) (r : Int) : hi (nearR b a r) (clamps s) = hi (nearR a b r) (clamps s) := by
 refine hi_congr fun c hcm => ?_
 have h := hc c hcm
 unfold nearR
 congr 1
 rw [Bool.eq_iff_iff, near_iff h hb ha, near_iff h ha hb]
 exact ⟨nearP_sym, nearP_sym⟩
theorem truth4 (s : Setup) (l : (Int × Int) × (Int × Int)) (r : Int) (hs : okD t23 s) (hl : okD t33 l) (hr : okD t2 r) : F4 s l r = some true := by
 unfold F4 F7
 obtain ⟨b, hb, hk⟩ := F12_some s l r
 rw [hb]
 cases b with
 | false => rfl
 | true =>
   obtain ⟨k1, k2⟩ := hk rfl
   have hc := cl_of hs
   obtain ⟨pa, pb⟩ := pts_of hl
   have h64 : int64 r := i64_of hr
   rw [F13_spec (by omega) hc pa pb h64, F14_spec (by omega) hc pa pb h64, F13_spec (by omega) hc pb pa h64, near_sym hc pa pb]
   simp only [Option.bind_some, Bool.not_true, cond_false, beq_self_eq_true, cond_true]
end Go.Sw
