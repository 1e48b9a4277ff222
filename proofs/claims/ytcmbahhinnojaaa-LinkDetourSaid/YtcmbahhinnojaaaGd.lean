/- Each function of the code computes the Lean function of the same number wherever that has a value; no other conditions. -/
import Derived.Test.YtcmbahhinnojaaaGc
namespace Go.Sw
open Go Go.Sw
set_option linter.unusedSimpArgs false
set_option linter.unusedVariables false

/-! ## f8 -/

noncomputable def c_8 : Code := body0 Go.Proofs.Try.f8

def fin8 (r : Bool) : Ex → St → Prop := endK X0 [.tmp 8] [4] (.d t4 r)

def f8_c1_post (x33 : Int) (x34 : Bool) (x35 : List (Int × (Int × Int × Int) × (Int × Int) × Int)) (x36 : Int) (x37 : Int) (x38 : Int) (x39 : Bool) (x40 : Int × Int × Int) (x41 : Int × Int × Int) (x42 : Int × (Int × Int × Int) × (Int × Int) × Int) : ((Unit) ⊕ (Bool)) → Ex → St → Prop
  | .inl o, x, s => x = .nrm ∧ s = ⟨[(3, (.d t2 x33)), (5, (.ptr 101 0)), (9, (.ptr 201 0)), (11, (.ptr 502 0)), (14, (.d t31 x35)), (15, (.d t2 x36)), (16, (.d t2 x37))], [(101, (.box (.vcons (.d t25 x40) .vnil))), (201, (.box (.vcons (.d t25 x41) .vnil))), (502, (.box (.vcons (.d t66 x42) .vnil)))]⟩
  | .inr o, x, s => x = .ret ∧ fin8  o x s

def f8_c1 (x33 : Int) (x34 : Bool) (x38 : Int) (x39 : Bool) (x41 : Int × Int × Int) (x42 : Int × (Int × Int × Int) × (Int × Int) × Int) : Option ((Unit) ⊕ (Bool)) :=
  (bif x39 then
    (bif (!x34) then
      (bif (x42.2.1.2.2 != x41.2.2) then
        some (.inr false)
      else
        (bif (decide (x41.2.2 < x33)) then
          some (.inr false)
        else
          (bif (decide (x42.2.1.2.2 < (1000 : Int))) then
            (bif (decide (x42.2.1.2.2 ≤ x41.2.2)) then
              some (.inr false)
            else
              some (.inl ()))
          else
            some (.inl ()))))
    else
      (bif (decide (x42.2.1.2.2 < (1000 : Int))) then
        (bif (decide (x42.2.1.2.2 ≤ x41.2.2)) then
          some (.inr false)
        else
          some (.inl ()))
      else
        some (.inl ())))
  else
    (bif (x38 == (2 : Int)) then
      (bif (!x34) then
        some (.inr false)
      else
        (bif (decide (x41.2.2 ≤ x42.2.1.2.2)) then
          some (.inr false)
        else
          some (.inl ())))
    else
      some (.inr false)))

theorem f8_c1_ok (x33 : Int) (x34 : Bool) (x35 : List (Int × (Int × Int × Int) × (Int × Int) × Int)) (x36 : Int) (x37 : Int) (x38 : Int) (x39 : Bool) (x40 : Int × Int × Int) (x41 : Int × Int × Int) (x42 : Int × (Int × Int × Int) × (Int × Int) × Int) {out : ((Unit) ⊕ (Bool))} (h : f8_c1 x33 x34 x38 x39 x41 x42 = some out) : Run Pg 86 (sq2 (bk1 (sq2 (sq1 (sq2 (sq2 (bk1 (sq1 (sq2 (sq2 (lp1 (bk1 (sq2 (sq1 (sq2 (sq2 c_8)))))))))))))))) ⟨[(3, (.d t2 x33)), (5, (.ptr 101 0)), (9, (.ptr 201 0)), (11, (.ptr 502 0)), (12, (.d t4 x34)), (14, (.d t31 x35)), (15, (.d t2 x36)), (16, (.d t2 x37)), (35, (.d t2 x38)), (36, (.d t4 x39))], [(101, (.box (.vcons (.d t25 x40) .vnil))), (201, (.box (.vcons (.d t25 x41) .vnil))), (502, (.box (.vcons (.d t66 x42) .vnil)))]⟩ (f8_c1_post x33 x34 x35 x36 x37 x38 x39 x40 x41 x42 out) := by
  unfold f8_c1 at h
  refine Run.condN x39 (by kernel_rfl) (fun hb => ?_) (fun hb => ?_)
  · replace h := bif_t h hb
    rcases bif_elim h with ⟨hb0, h⟩ | ⟨hb0, h⟩
    · rcases bif_elim h with ⟨hb1, h⟩ | ⟨hb1, h⟩
      · refine Run.regN hX [(2, .b true), (9, .b true)] 1000 [3, 5, 9, 11, 14, 15, 16, 67] [101, 201, 502] ⟨[(3, (.d t2 x33)), (5, (.ptr 101 0)), (9, (.ptr 201 0)), (11, (.ptr 502 0)), (14, (.d t31 x35)), (15, (.d t2 x36)), (16, (.d t2 x37)), (67, (.d t4 true))], [(101, (.box (.vcons (.d t25 x40) .vnil))), (201, (.box (.vcons (.d t25 x41) .vnil))), (502, (.box (.vcons (.d t66 x42) .vnil)))]⟩ [(!x34) = true, (x42.2.1.2.2 != x41.2.2) = true] (by kernel_rfl) (by kernel_rfl) ⟨hb0, hb1, trivial⟩ ?_
        refine Run.condN true (by kernel_rfl) (fun hb => ?_) (fun hb => (by cases hb))
        refine Run.regN hX [] 1100 [8] [] ⟨[(8, (.d t4 false))], []⟩ [] (by kernel_rfl) (by kernel_rfl) trivial ?_
        refine Run.retN (by kernel_rfl) ?_
        replace h := Option.some.inj h
        subst h
        exact ⟨rfl, [(.d t4 false)], by kernel_rfl, by kernel_rfl⟩
      · rcases bif_elim h with ⟨hb2, h⟩ | ⟨hb2, h⟩
        · refine Run.regN hX [(2, .b true), (9, .b false), (16, .b true)] 1000 [3, 5, 9, 11, 14, 15, 16, 67] [101, 201, 502] ⟨[(3, (.d t2 x33)), (5, (.ptr 101 0)), (9, (.ptr 201 0)), (11, (.ptr 502 0)), (14, (.d t31 x35)), (15, (.d t2 x36)), (16, (.d t2 x37)), (67, (.d t4 true))], [(101, (.box (.vcons (.d t25 x40) .vnil))), (201, (.box (.vcons (.d t25 x41) .vnil))), (502, (.box (.vcons (.d t66 x42) .vnil)))]⟩ [(!x34) = true, (x42.2.1.2.2 != x41.2.2) = false, (decide (x41.2.2 < x33)) = true] (by kernel_rfl) (by kernel_rfl) ⟨hb0, hb1, hb2, trivial⟩ ?_
          refine Run.condN true (by kernel_rfl) (fun hb => ?_) (fun hb => (by cases hb))
          refine Run.regN hX [] 1100 [8] [] ⟨[(8, (.d t4 false))], []⟩ [] (by kernel_rfl) (by kernel_rfl) trivial ?_
          refine Run.retN (by kernel_rfl) ?_
          replace h := Option.some.inj h
          subst h
          exact ⟨rfl, [(.d t4 false)], by kernel_rfl, by kernel_rfl⟩
        · rcases bif_elim h with ⟨hb3, h⟩ | ⟨hb3, h⟩
          · refine Run.regN hX [(2, .b true), (9, .b false), (16, .b false), (21, .b true)] 1000 [3, 5, 9, 11, 14, 15, 16, 67] [101, 201, 502] ⟨[(3, (.d t2 x33)), (5, (.ptr 101 0)), (9, (.ptr 201 0)), (11, (.ptr 502 0)), (14, (.d t31 x35)), (15, (.d t2 x36)), (16, (.d t2 x37)), (67, (.d t4 (decide (x42.2.1.2.2 ≤ x41.2.2))))], [(101, (.box (.vcons (.d t25 x40) .vnil))), (201, (.box (.vcons (.d t25 x41) .vnil))), (502, (.box (.vcons (.d t66 x42) .vnil)))]⟩ [(!x34) = true, (x42.2.1.2.2 != x41.2.2) = false, (decide (x41.2.2 < x33)) = false, (decide (x42.2.1.2.2 < (1000 : Int))) = true] (by kernel_rfl) (by kernel_rfl) ⟨hb0, hb1, hb2, hb3, trivial⟩ ?_
            refine Run.condN (decide (x42.2.1.2.2 ≤ x41.2.2)) (by kernel_rfl) (fun hb => ?_) (fun hb => ?_)
            · replace h := bif_t h hb
              refine Run.regN hX [] 1100 [8] [] ⟨[(8, (.d t4 false))], []⟩ [] (by kernel_rfl) (by kernel_rfl) trivial ?_
              refine Run.retN (by kernel_rfl) ?_
              replace h := Option.some.inj h
              subst h
              exact ⟨rfl, [(.d t4 false)], by kernel_rfl, by kernel_rfl⟩
            · replace h := bif_f h hb
              refine Run.keep (s' := ⟨[(3, (.d t2 x33)), (5, (.ptr 101 0)), (9, (.ptr 201 0)), (11, (.ptr 502 0)), (14, (.d t31 x35)), (15, (.d t2 x36)), (16, (.d t2 x37))], [(101, (.box (.vcons (.d t25 x40) .vnil))), (201, (.box (.vcons (.d t25 x41) .vnil))), (502, (.box (.vcons (.d t66 x42) .vnil)))]⟩) [3, 5, 9, 11, 14, 15, 16] [101, 201, 502] (by kernel_rfl) ?_
              refine Run.skipN (by kernel_rfl) ?_
              replace h := Option.some.inj h
              subst h
              exact ⟨rfl, by kernel_rfl⟩
          · refine Run.regN hX [(2, .b true), (9, .b false), (16, .b false), (21, .b false)] 1000 [3, 5, 9, 11, 14, 15, 16, 67] [101, 201, 502] ⟨[(3, (.d t2 x33)), (5, (.ptr 101 0)), (9, (.ptr 201 0)), (11, (.ptr 502 0)), (14, (.d t31 x35)), (15, (.d t2 x36)), (16, (.d t2 x37)), (67, (.d t4 false))], [(101, (.box (.vcons (.d t25 x40) .vnil))), (201, (.box (.vcons (.d t25 x41) .vnil))), (502, (.box (.vcons (.d t66 x42) .vnil)))]⟩ [(!x34) = true, (x42.2.1.2.2 != x41.2.2) = false, (decide (x41.2.2 < x33)) = false, (decide (x42.2.1.2.2 < (1000 : Int))) = false] (by kernel_rfl) (by kernel_rfl) ⟨hb0, hb1, hb2, hb3, trivial⟩ ?_
            refine Run.condN false (by kernel_rfl) (fun hb => (by cases hb)) (fun hb => ?_)
            refine Run.keep (s' := ⟨[(3, (.d t2 x33)), (5, (.ptr 101 0)), (9, (.ptr 201 0)), (11, (.ptr 502 0)), (14, (.d t31 x35)), (15, (.d t2 x36)), (16, (.d t2 x37))], [(101, (.box (.vcons (.d t25 x40) .vnil))), (201, (.box (.vcons (.d t25 x41) .vnil))), (502, (.box (.vcons (.d t66 x42) .vnil)))]⟩) [3, 5, 9, 11, 14, 15, 16] [101, 201, 502] (by kernel_rfl) ?_
            refine Run.skipN (by kernel_rfl) ?_
            replace h := Option.some.inj h
            subst h
            exact ⟨rfl, by kernel_rfl⟩
    · rcases bif_elim h with ⟨hb1, h⟩ | ⟨hb1, h⟩
      · refine Run.regN hX [(2, .b false), (21, .b true)] 1000 [3, 5, 9, 11, 14, 15, 16, 67] [101, 201, 502] ⟨[(3, (.d t2 x33)), (5, (.ptr 101 0)), (9, (.ptr 201 0)), (11, (.ptr 502 0)), (14, (.d t31 x35)), (15, (.d t2 x36)), (16, (.d t2 x37)), (67, (.d t4 (decide (x42.2.1.2.2 ≤ x41.2.2))))], [(101, (.box (.vcons (.d t25 x40) .vnil))), (201, (.box (.vcons (.d t25 x41) .vnil))), (502, (.box (.vcons (.d t66 x42) .vnil)))]⟩ [(!x34) = false, (decide (x42.2.1.2.2 < (1000 : Int))) = true] (by kernel_rfl) (by kernel_rfl) ⟨hb0, hb1, trivial⟩ ?_
        refine Run.condN (decide (x42.2.1.2.2 ≤ x41.2.2)) (by kernel_rfl) (fun hb => ?_) (fun hb => ?_)
        · replace h := bif_t h hb
          refine Run.regN hX [] 1100 [8] [] ⟨[(8, (.d t4 false))], []⟩ [] (by kernel_rfl) (by kernel_rfl) trivial ?_
          refine Run.retN (by kernel_rfl) ?_
          replace h := Option.some.inj h
          subst h
          exact ⟨rfl, [(.d t4 false)], by kernel_rfl, by kernel_rfl⟩
        · replace h := bif_f h hb
          refine Run.keep (s' := ⟨[(3, (.d t2 x33)), (5, (.ptr 101 0)), (9, (.ptr 201 0)), (11, (.ptr 502 0)), (14, (.d t31 x35)), (15, (.d t2 x36)), (16, (.d t2 x37))], [(101, (.box (.vcons (.d t25 x40) .vnil))), (201, (.box (.vcons (.d t25 x41) .vnil))), (502, (.box (.vcons (.d t66 x42) .vnil)))]⟩) [3, 5, 9, 11, 14, 15, 16] [101, 201, 502] (by kernel_rfl) ?_
          refine Run.skipN (by kernel_rfl) ?_
          replace h := Option.some.inj h
          subst h
          exact ⟨rfl, by kernel_rfl⟩
      · refine Run.regN hX [(2, .b false), (21, .b false)] 1000 [3, 5, 9, 11, 14, 15, 16, 67] [101, 201, 502] ⟨[(3, (.d t2 x33)), (5, (.ptr 101 0)), (9, (.ptr 201 0)), (11, (.ptr 502 0)), (14, (.d t31 x35)), (15, (.d t2 x36)), (16, (.d t2 x37)), (67, (.d t4 false))], [(101, (.box (.vcons (.d t25 x40) .vnil))), (201, (.box (.vcons (.d t25 x41) .vnil))), (502, (.box (.vcons (.d t66 x42) .vnil)))]⟩ [(!x34) = false, (decide (x42.2.1.2.2 < (1000 : Int))) = false] (by kernel_rfl) (by kernel_rfl) ⟨hb0, hb1, trivial⟩ ?_
        refine Run.condN false (by kernel_rfl) (fun hb => (by cases hb)) (fun hb => ?_)
        refine Run.keep (s' := ⟨[(3, (.d t2 x33)), (5, (.ptr 101 0)), (9, (.ptr 201 0)), (11, (.ptr 502 0)), (14, (.d t31 x35)), (15, (.d t2 x36)), (16, (.d t2 x37))], [(101, (.box (.vcons (.d t25 x40) .vnil))), (201, (.box (.vcons (.d t25 x41) .vnil))), (502, (.box (.vcons (.d t66 x42) .vnil)))]⟩) [3, 5, 9, 11, 14, 15, 16] [101, 201, 502] (by kernel_rfl) ?_
        refine Run.skipN (by kernel_rfl) ?_
        replace h := Option.some.inj h
        subst h
        exact ⟨rfl, by kernel_rfl⟩
  · replace h := bif_f h hb
    refine Run.regN hX [] 1200 [3, 5, 9, 11, 12, 14, 15, 16, 68] [101, 201, 502] ⟨[(3, (.d t2 x33)), (5, (.ptr 101 0)), (9, (.ptr 201 0)), (11, (.ptr 502 0)), (12, (.d t4 x34)), (14, (.d t31 x35)), (15, (.d t2 x36)), (16, (.d t2 x37)), (68, (.d t4 (x38 == (2 : Int))))], [(101, (.box (.vcons (.d t25 x40) .vnil))), (201, (.box (.vcons (.d t25 x41) .vnil))), (502, (.box (.vcons (.d t66 x42) .vnil)))]⟩ [] (by kernel_rfl) (by kernel_rfl) trivial ?_
    refine Run.condN (x38 == (2 : Int)) (by kernel_rfl) (fun hb => ?_) (fun hb => ?_)
    · replace h := bif_t h hb
      rcases bif_elim h with ⟨hb0, h⟩ | ⟨hb0, h⟩
      · refine Run.regN hX [(2, .b true)] 1300 [3, 5, 9, 11, 14, 15, 16, 79] [101, 201, 502] ⟨[(3, (.d t2 x33)), (5, (.ptr 101 0)), (9, (.ptr 201 0)), (11, (.ptr 502 0)), (14, (.d t31 x35)), (15, (.d t2 x36)), (16, (.d t2 x37)), (79, (.d t4 true))], [(101, (.box (.vcons (.d t25 x40) .vnil))), (201, (.box (.vcons (.d t25 x41) .vnil))), (502, (.box (.vcons (.d t66 x42) .vnil)))]⟩ [(!x34) = true] (by kernel_rfl) (by kernel_rfl) ⟨hb0, trivial⟩ ?_
        refine Run.condN true (by kernel_rfl) (fun hb => ?_) (fun hb => (by cases hb))
        refine Run.regN hX [] 1400 [8] [] ⟨[(8, (.d t4 false))], []⟩ [] (by kernel_rfl) (by kernel_rfl) trivial ?_
        refine Run.retN (by kernel_rfl) ?_
        replace h := Option.some.inj h
        subst h
        exact ⟨rfl, [(.d t4 false)], by kernel_rfl, by kernel_rfl⟩
      · refine Run.regN hX [(2, .b false)] 1300 [3, 5, 9, 11, 14, 15, 16, 79] [101, 201, 502] ⟨[(3, (.d t2 x33)), (5, (.ptr 101 0)), (9, (.ptr 201 0)), (11, (.ptr 502 0)), (14, (.d t31 x35)), (15, (.d t2 x36)), (16, (.d t2 x37)), (79, (.d t4 (decide (x41.2.2 ≤ x42.2.1.2.2))))], [(101, (.box (.vcons (.d t25 x40) .vnil))), (201, (.box (.vcons (.d t25 x41) .vnil))), (502, (.box (.vcons (.d t66 x42) .vnil)))]⟩ [(!x34) = false] (by kernel_rfl) (by kernel_rfl) ⟨hb0, trivial⟩ ?_
        refine Run.condN (decide (x41.2.2 ≤ x42.2.1.2.2)) (by kernel_rfl) (fun hb => ?_) (fun hb => ?_)
        · replace h := bif_t h hb
          refine Run.regN hX [] 1400 [8] [] ⟨[(8, (.d t4 false))], []⟩ [] (by kernel_rfl) (by kernel_rfl) trivial ?_
          refine Run.retN (by kernel_rfl) ?_
          replace h := Option.some.inj h
          subst h
          exact ⟨rfl, [(.d t4 false)], by kernel_rfl, by kernel_rfl⟩
        · replace h := bif_f h hb
          refine Run.keep (s' := ⟨[(3, (.d t2 x33)), (5, (.ptr 101 0)), (9, (.ptr 201 0)), (11, (.ptr 502 0)), (14, (.d t31 x35)), (15, (.d t2 x36)), (16, (.d t2 x37))], [(101, (.box (.vcons (.d t25 x40) .vnil))), (201, (.box (.vcons (.d t25 x41) .vnil))), (502, (.box (.vcons (.d t66 x42) .vnil)))]⟩) [3, 5, 9, 11, 14, 15, 16] [101, 201, 502] (by kernel_rfl) ?_
          refine Run.skipN (by kernel_rfl) ?_
          replace h := Option.some.inj h
          subst h
          exact ⟨rfl, by kernel_rfl⟩
    · replace h := bif_f h hb
      refine Run.regN hX [] 800 [8] [] ⟨[(8, (.d t4 false))], []⟩ [] (by kernel_rfl) (by kernel_rfl) trivial ?_
      refine Run.retN (by kernel_rfl) ?_
      replace h := Option.some.inj h
      subst h
      exact ⟨rfl, [(.d t4 false)], by kernel_rfl, by kernel_rfl⟩

def f8_c2_post (x46 : Int) (x47 : Bool) (x48 : List (Int × (Int × Int × Int) × (Int × Int) × Int)) (x49 : Int) (x50 : Int) (x51 : Int) (x52 : Bool) (x53 : Int × Int × Int) (x54 : Int × Int × Int) (x55 : Int × (Int × Int × Int) × (Int × Int) × Int) : ((Unit) ⊕ (Bool)) → Ex → St → Prop
  | .inl o, x, s => x = .nrm ∧ s = ⟨[(3, (.d t2 x46)), (5, (.ptr 101 0)), (9, (.ptr 201 0)), (11, (.ptr 502 0)), (14, (.d t31 x48)), (15, (.d t2 x49)), (16, (.d t2 x50))], [(101, (.box (.vcons (.d t25 x53) .vnil))), (201, (.box (.vcons (.d t25 x54) .vnil))), (502, (.box (.vcons (.d t66 x55) .vnil)))]⟩
  | .inr o, x, s => x = .ret ∧ fin8  o x s

def f8_c2 (x46 : Int) (x47 : Bool) (x51 : Int) (x52 : Bool) (x54 : Int × Int × Int) (x55 : Int × (Int × Int × Int) × (Int × Int) × Int) : Option ((Unit) ⊕ (Bool)) :=
  (bif x52 then
    (bif (!x47) then
      (bif (x55.2.1.2.2 != x54.2.2) then
        some (.inr false)
      else
        (bif (decide (x54.2.2 < x46)) then
          some (.inr false)
        else
          (bif (decide (x55.2.1.2.2 < (1000 : Int))) then
            (bif (decide (x55.2.1.2.2 ≤ x54.2.2)) then
              some (.inr false)
            else
              some (.inl ()))
          else
            some (.inl ()))))
    else
      (bif (decide (x55.2.1.2.2 < (1000 : Int))) then
        (bif (decide (x55.2.1.2.2 ≤ x54.2.2)) then
          some (.inr false)
        else
          some (.inl ()))
      else
        some (.inl ())))
  else
    (bif (x51 == (2 : Int)) then
      (bif (!x47) then
        some (.inr false)
      else
        (bif (decide (x54.2.2 ≤ x55.2.1.2.2)) then
          some (.inr false)
        else
          some (.inl ())))
    else
      some (.inr false)))

theorem f8_c2_ok (x46 : Int) (x47 : Bool) (x48 : List (Int × (Int × Int × Int) × (Int × Int) × Int)) (x49 : Int) (x50 : Int) (x51 : Int) (x52 : Bool) (x53 : Int × Int × Int) (x54 : Int × Int × Int) (x55 : Int × (Int × Int × Int) × (Int × Int) × Int) {out : ((Unit) ⊕ (Bool))} (h : f8_c2 x46 x47 x51 x52 x54 x55 = some out) : Run Pg 86 (sq2 (bk1 (sq2 (sq1 (sq2 (sq2 (bk1 (sq1 (sq2 (sq2 (lp1 (bk1 (sq2 (sq1 (sq2 (sq2 c_8)))))))))))))))) ⟨[(3, (.d t2 x46)), (5, (.ptr 101 0)), (9, (.ptr 201 0)), (11, (.ptr 502 0)), (12, (.d t4 x47)), (14, (.d t31 x48)), (15, (.d t2 x49)), (16, (.d t2 x50)), (35, (.d t2 x51)), (36, (.d t4 x52))], [(101, (.box (.vcons (.d t25 x53) .vnil))), (201, (.box (.vcons (.d t25 x54) .vnil))), (502, (.box (.vcons (.d t66 x55) .vnil)))]⟩ (f8_c2_post x46 x47 x48 x49 x50 x51 x52 x53 x54 x55 out) := by
  unfold f8_c2 at h
  refine Run.condN x52 (by kernel_rfl) (fun hb => ?_) (fun hb => ?_)
  · replace h := bif_t h hb
    rcases bif_elim h with ⟨hb0, h⟩ | ⟨hb0, h⟩
    · rcases bif_elim h with ⟨hb1, h⟩ | ⟨hb1, h⟩
      · refine Run.regN hX [(2, .b true), (9, .b true)] 1000 [3, 5, 9, 11, 14, 15, 16, 67] [101, 201, 502] ⟨[(3, (.d t2 x46)), (5, (.ptr 101 0)), (9, (.ptr 201 0)), (11, (.ptr 502 0)), (14, (.d t31 x48)), (15, (.d t2 x49)), (16, (.d t2 x50)), (67, (.d t4 true))], [(101, (.box (.vcons (.d t25 x53) .vnil))), (201, (.box (.vcons (.d t25 x54) .vnil))), (502, (.box (.vcons (.d t66 x55) .vnil)))]⟩ [(!x47) = true, (x55.2.1.2.2 != x54.2.2) = true] (by kernel_rfl) (by kernel_rfl) ⟨hb0, hb1, trivial⟩ ?_
        refine Run.condN true (by kernel_rfl) (fun hb => ?_) (fun hb => (by cases hb))
        refine Run.regN hX [] 1100 [8] [] ⟨[(8, (.d t4 false))], []⟩ [] (by kernel_rfl) (by kernel_rfl) trivial ?_
        refine Run.retN (by kernel_rfl) ?_
        replace h := Option.some.inj h
        subst h
        exact ⟨rfl, [(.d t4 false)], by kernel_rfl, by kernel_rfl⟩
      · rcases bif_elim h with ⟨hb2, h⟩ | ⟨hb2, h⟩
        · refine Run.regN hX [(2, .b true), (9, .b false), (16, .b true)] 1000 [3, 5, 9, 11, 14, 15, 16, 67] [101, 201, 502] ⟨[(3, (.d t2 x46)), (5, (.ptr 101 0)), (9, (.ptr 201 0)), (11, (.ptr 502 0)), (14, (.d t31 x48)), (15, (.d t2 x49)), (16, (.d t2 x50)), (67, (.d t4 true))], [(101, (.box (.vcons (.d t25 x53) .vnil))), (201, (.box (.vcons (.d t25 x54) .vnil))), (502, (.box (.vcons (.d t66 x55) .vnil)))]⟩ [(!x47) = true, (x55.2.1.2.2 != x54.2.2) = false, (decide (x54.2.2 < x46)) = true] (by kernel_rfl) (by kernel_rfl) ⟨hb0, hb1, hb2, trivial⟩ ?_
          refine Run.condN true (by kernel_rfl) (fun hb => ?_) (fun hb => (by cases hb))
          refine Run.regN hX [] 1100 [8] [] ⟨[(8, (.d t4 false))], []⟩ [] (by kernel_rfl) (by kernel_rfl) trivial ?_
          refine Run.retN (by kernel_rfl) ?_
          replace h := Option.some.inj h
          subst h
          exact ⟨rfl, [(.d t4 false)], by kernel_rfl, by kernel_rfl⟩
        · rcases bif_elim h with ⟨hb3, h⟩ | ⟨hb3, h⟩
          · refine Run.regN hX [(2, .b true), (9, .b false), (16, .b false), (21, .b true)] 1000 [3, 5, 9, 11, 14, 15, 16, 67] [101, 201, 502] ⟨[(3, (.d t2 x46)), (5, (.ptr 101 0)), (9, (.ptr 201 0)), (11, (.ptr 502 0)), (14, (.d t31 x48)), (15, (.d t2 x49)), (16, (.d t2 x50)), (67, (.d t4 (decide (x55.2.1.2.2 ≤ x54.2.2))))], [(101, (.box (.vcons (.d t25 x53) .vnil))), (201, (.box (.vcons (.d t25 x54) .vnil))), (502, (.box (.vcons (.d t66 x55) .vnil)))]⟩ [(!x47) = true, (x55.2.1.2.2 != x54.2.2) = false, (decide (x54.2.2 < x46)) = false, (decide (x55.2.1.2.2 < (1000 : Int))) = true] (by kernel_rfl) (by kernel_rfl) ⟨hb0, hb1, hb2, hb3, trivial⟩ ?_
            refine Run.condN (decide (x55.2.1.2.2 ≤ x54.2.2)) (by kernel_rfl) (fun hb => ?_) (fun hb => ?_)
            · replace h := bif_t h hb
              refine Run.regN hX [] 1100 [8] [] ⟨[(8, (.d t4 false))], []⟩ [] (by kernel_rfl) (by kernel_rfl) trivial ?_
              refine Run.retN (by kernel_rfl) ?_
              replace h := Option.some.inj h
              subst h
              exact ⟨rfl, [(.d t4 false)], by kernel_rfl, by kernel_rfl⟩
            · replace h := bif_f h hb
              refine Run.keep (s' := ⟨[(3, (.d t2 x46)), (5, (.ptr 101 0)), (9, (.ptr 201 0)), (11, (.ptr 502 0)), (14, (.d t31 x48)), (15, (.d t2 x49)), (16, (.d t2 x50))], [(101, (.box (.vcons (.d t25 x53) .vnil))), (201, (.box (.vcons (.d t25 x54) .vnil))), (502, (.box (.vcons (.d t66 x55) .vnil)))]⟩) [3, 5, 9, 11, 14, 15, 16] [101, 201, 502] (by kernel_rfl) ?_
              refine Run.skipN (by kernel_rfl) ?_
              replace h := Option.some.inj h
              subst h
              exact ⟨rfl, by kernel_rfl⟩
          · refine Run.regN hX [(2, .b true), (9, .b false), (16, .b false), (21, .b false)] 1000 [3, 5, 9, 11, 14, 15, 16, 67] [101, 201, 502] ⟨[(3, (.d t2 x46)), (5, (.ptr 101 0)), (9, (.ptr 201 0)), (11, (.ptr 502 0)), (14, (.d t31 x48)), (15, (.d t2 x49)), (16, (.d t2 x50)), (67, (.d t4 false))], [(101, (.box (.vcons (.d t25 x53) .vnil))), (201, (.box (.vcons (.d t25 x54) .vnil))), (502, (.box (.vcons (.d t66 x55) .vnil)))]⟩ [(!x47) = true, (x55.2.1.2.2 != x54.2.2) = false, (decide (x54.2.2 < x46)) = false, (decide (x55.2.1.2.2 < (1000 : Int))) = false] (by kernel_rfl) (by kernel_rfl) ⟨hb0, hb1, hb2, hb3, trivial⟩ ?_
            refine Run.condN false (by kernel_rfl) (fun hb => (by cases hb)) (fun hb => ?_)
            refine Run.keep (s' := ⟨[(3, (.d t2 x46)), (5, (.ptr 101 0)), (9, (.ptr 201 0)), (11, (.ptr 502 0)), (14, (.d t31 x48)), (15, (.d t2 x49)), (16, (.d t2 x50))], [(101, (.box (.vcons (.d t25 x53) .vnil))), (201, (.box (.vcons (.d t25 x54) .vnil))), (502, (.box (.vcons (.d t66 x55) .vnil)))]⟩) [3, 5, 9, 11, 14, 15, 16] [101, 201, 502] (by kernel_rfl) ?_
            refine Run.skipN (by kernel_rfl) ?_
            replace h := Option.some.inj h
            subst h
            exact ⟨rfl, by kernel_rfl⟩
    · rcases bif_elim h with ⟨hb1, h⟩ | ⟨hb1, h⟩
      · refine Run.regN hX [(2, .b false), (21, .b true)] 1000 [3, 5, 9, 11, 14, 15, 16, 67] [101, 201, 502] ⟨[(3, (.d t2 x46)), (5, (.ptr 101 0)), (9, (.ptr 201 0)), (11, (.ptr 502 0)), (14, (.d t31 x48)), (15, (.d t2 x49)), (16, (.d t2 x50)), (67, (.d t4 (decide (x55.2.1.2.2 ≤ x54.2.2))))], [(101, (.box (.vcons (.d t25 x53) .vnil))), (201, (.box (.vcons (.d t25 x54) .vnil))), (502, (.box (.vcons (.d t66 x55) .vnil)))]⟩ [(!x47) = false, (decide (x55.2.1.2.2 < (1000 : Int))) = true] (by kernel_rfl) (by kernel_rfl) ⟨hb0, hb1, trivial⟩ ?_
        refine Run.condN (decide (x55.2.1.2.2 ≤ x54.2.2)) (by kernel_rfl) (fun hb => ?_) (fun hb => ?_)
        · replace h := bif_t h hb
          refine Run.regN hX [] 1100 [8] [] ⟨[(8, (.d t4 false))], []⟩ [] (by kernel_rfl) (by kernel_rfl) trivial ?_
          refine Run.retN (by kernel_rfl) ?_
          replace h := Option.some.inj h
          subst h
          exact ⟨rfl, [(.d t4 false)], by kernel_rfl, by kernel_rfl⟩
        · replace h := bif_f h hb
          refine Run.keep (s' := ⟨[(3, (.d t2 x46)), (5, (.ptr 101 0)), (9, (.ptr 201 0)), (11, (.ptr 502 0)), (14, (.d t31 x48)), (15, (.d t2 x49)), (16, (.d t2 x50))], [(101, (.box (.vcons (.d t25 x53) .vnil))), (201, (.box (.vcons (.d t25 x54) .vnil))), (502, (.box (.vcons (.d t66 x55) .vnil)))]⟩) [3, 5, 9, 11, 14, 15, 16] [101, 201, 502] (by kernel_rfl) ?_
          refine Run.skipN (by kernel_rfl) ?_
          replace h := Option.some.inj h
          subst h
          exact ⟨rfl, by kernel_rfl⟩
      · refine Run.regN hX [(2, .b false), (21, .b false)] 1000 [3, 5, 9, 11, 14, 15, 16, 67] [101, 201, 502] ⟨[(3, (.d t2 x46)), (5, (.ptr 101 0)), (9, (.ptr 201 0)), (11, (.ptr 502 0)), (14, (.d t31 x48)), (15, (.d t2 x49)), (16, (.d t2 x50)), (67, (.d t4 false))], [(101, (.box (.vcons (.d t25 x53) .vnil))), (201, (.box (.vcons (.d t25 x54) .vnil))), (502, (.box (.vcons (.d t66 x55) .vnil)))]⟩ [(!x47) = false, (decide (x55.2.1.2.2 < (1000 : Int))) = false] (by kernel_rfl) (by kernel_rfl) ⟨hb0, hb1, trivial⟩ ?_
        refine Run.condN false (by kernel_rfl) (fun hb => (by cases hb)) (fun hb => ?_)
        refine Run.keep (s' := ⟨[(3, (.d t2 x46)), (5, (.ptr 101 0)), (9, (.ptr 201 0)), (11, (.ptr 502 0)), (14, (.d t31 x48)), (15, (.d t2 x49)), (16, (.d t2 x50))], [(101, (.box (.vcons (.d t25 x53) .vnil))), (201, (.box (.vcons (.d t25 x54) .vnil))), (502, (.box (.vcons (.d t66 x55) .vnil)))]⟩) [3, 5, 9, 11, 14, 15, 16] [101, 201, 502] (by kernel_rfl) ?_
        refine Run.skipN (by kernel_rfl) ?_
        replace h := Option.some.inj h
        subst h
        exact ⟨rfl, by kernel_rfl⟩
  · replace h := bif_f h hb
    refine Run.regN hX [] 1200 [3, 5, 9, 11, 12, 14, 15, 16, 68] [101, 201, 502] ⟨[(3, (.d t2 x46)), (5, (.ptr 101 0)), (9, (.ptr 201 0)), (11, (.ptr 502 0)), (12, (.d t4 x47)), (14, (.d t31 x48)), (15, (.d t2 x49)), (16, (.d t2 x50)), (68, (.d t4 (x51 == (2 : Int))))], [(101, (.box (.vcons (.d t25 x53) .vnil))), (201, (.box (.vcons (.d t25 x54) .vnil))), (502, (.box (.vcons (.d t66 x55) .vnil)))]⟩ [] (by kernel_rfl) (by kernel_rfl) trivial ?_
    refine Run.condN (x51 == (2 : Int)) (by kernel_rfl) (fun hb => ?_) (fun hb => ?_)
    · replace h := bif_t h hb
      rcases bif_elim h with ⟨hb0, h⟩ | ⟨hb0, h⟩
      · refine Run.regN hX [(2, .b true)] 1300 [3, 5, 9, 11, 14, 15, 16, 79] [101, 201, 502] ⟨[(3, (.d t2 x46)), (5, (.ptr 101 0)), (9, (.ptr 201 0)), (11, (.ptr 502 0)), (14, (.d t31 x48)), (15, (.d t2 x49)), (16, (.d t2 x50)), (79, (.d t4 true))], [(101, (.box (.vcons (.d t25 x53) .vnil))), (201, (.box (.vcons (.d t25 x54) .vnil))), (502, (.box (.vcons (.d t66 x55) .vnil)))]⟩ [(!x47) = true] (by kernel_rfl) (by kernel_rfl) ⟨hb0, trivial⟩ ?_
        refine Run.condN true (by kernel_rfl) (fun hb => ?_) (fun hb => (by cases hb))
        refine Run.regN hX [] 1400 [8] [] ⟨[(8, (.d t4 false))], []⟩ [] (by kernel_rfl) (by kernel_rfl) trivial ?_
        refine Run.retN (by kernel_rfl) ?_
        replace h := Option.some.inj h
        subst h
        exact ⟨rfl, [(.d t4 false)], by kernel_rfl, by kernel_rfl⟩
      · refine Run.regN hX [(2, .b false)] 1300 [3, 5, 9, 11, 14, 15, 16, 79] [101, 201, 502] ⟨[(3, (.d t2 x46)), (5, (.ptr 101 0)), (9, (.ptr 201 0)), (11, (.ptr 502 0)), (14, (.d t31 x48)), (15, (.d t2 x49)), (16, (.d t2 x50)), (79, (.d t4 (decide (x54.2.2 ≤ x55.2.1.2.2))))], [(101, (.box (.vcons (.d t25 x53) .vnil))), (201, (.box (.vcons (.d t25 x54) .vnil))), (502, (.box (.vcons (.d t66 x55) .vnil)))]⟩ [(!x47) = false] (by kernel_rfl) (by kernel_rfl) ⟨hb0, trivial⟩ ?_
        refine Run.condN (decide (x54.2.2 ≤ x55.2.1.2.2)) (by kernel_rfl) (fun hb => ?_) (fun hb => ?_)
        · replace h := bif_t h hb
          refine Run.regN hX [] 1400 [8] [] ⟨[(8, (.d t4 false))], []⟩ [] (by kernel_rfl) (by kernel_rfl) trivial ?_
          refine Run.retN (by kernel_rfl) ?_
          replace h := Option.some.inj h
          subst h
          exact ⟨rfl, [(.d t4 false)], by kernel_rfl, by kernel_rfl⟩
        · replace h := bif_f h hb
          refine Run.keep (s' := ⟨[(3, (.d t2 x46)), (5, (.ptr 101 0)), (9, (.ptr 201 0)), (11, (.ptr 502 0)), (14, (.d t31 x48)), (15, (.d t2 x49)), (16, (.d t2 x50))], [(101, (.box (.vcons (.d t25 x53) .vnil))), (201, (.box (.vcons (.d t25 x54) .vnil))), (502, (.box (.vcons (.d t66 x55) .vnil)))]⟩) [3, 5, 9, 11, 14, 15, 16] [101, 201, 502] (by kernel_rfl) ?_
          refine Run.skipN (by kernel_rfl) ?_
          replace h := Option.some.inj h
          subst h
          exact ⟨rfl, by kernel_rfl⟩
    · replace h := bif_f h hb
      refine Run.regN hX [] 800 [8] [] ⟨[(8, (.d t4 false))], []⟩ [] (by kernel_rfl) (by kernel_rfl) trivial ?_
      refine Run.retN (by kernel_rfl) ?_
      replace h := Option.some.inj h
      subst h
      exact ⟨rfl, [(.d t4 false)], by kernel_rfl, by kernel_rfl⟩

def f8_l0_post (x1 : Int) (x2 : List (Int × (Int × Int × Int) × (Int × Int) × Int)) (x3 : Int) (x5 : Int × Int × Int) : (((Int × Int × Int)) ⊕ (Bool)) → Ex → St → Prop
  | .inl o, x, s => x = .out 0 ∧ s = ⟨[(5, (.ptr 101 0)), (9, (.ptr 201 0))], [(101, (.box (.vcons (.d t25 x5) .vnil))), (201, (.box (.vcons (.d t25 o) .vnil)))]⟩
  | .inr o, x, s => x = .ret ∧ fin8  o x s

def f8_l0_b (x1 : Int) (x2 : List (Int × (Int × Int × Int) × (Int × Int) × Int)) (x3 : Int) (again : Int × (Int × Int × Int) → Option (((Int × Int × Int)) ⊕ (Bool))) : Int × (Int × Int × Int) → Option (((Int × Int × Int)) ⊕ (Bool))
  | (x4, x6) =>
    (bif (decide (x4 < x3)) then
      gd (0 ≤ x4) <|
      gd (x4 < ((List.length x2 : Nat) : Int)) <|
      (bif ((List.getD x2 (toN x4) ((0 : Int), ((0 : Int), (0 : Int), (0 : Int)), ((0 : Int), (0 : Int)), (0 : Int))).2.1.1 == x6.1) then
        ((f8_c1 x1 ((List.getD x2 (toN x4) ((0 : Int), ((0 : Int), (0 : Int), (0 : Int)), ((0 : Int), (0 : Int)), (0 : Int))).2.1.2.1 == x6.2.1) (List.getD x2 (toN x4) ((0 : Int), ((0 : Int), (0 : Int), (0 : Int)), ((0 : Int), (0 : Int)), (0 : Int))).1 ((List.getD x2 (toN x4) ((0 : Int), ((0 : Int), (0 : Int), (0 : Int)), ((0 : Int), (0 : Int)), (0 : Int))).1 == (1 : Int)) x6 (List.getD x2 (toN x4) ((0 : Int), ((0 : Int), (0 : Int), (0 : Int)), ((0 : Int), (0 : Int)), (0 : Int)))).bind fun o43 => match o43 with
          | .inl o44 =>
              again ((wrapI .i64 (x4 + (1 : Int))), (List.getD x2 (toN x4) ((0 : Int), ((0 : Int), (0 : Int), (0 : Int)), ((0 : Int), (0 : Int)), (0 : Int))).2.1)
          | .inr o45 =>
              some (.inr o45))
      else
        ((f8_c2 x1 false (List.getD x2 (toN x4) ((0 : Int), ((0 : Int), (0 : Int), (0 : Int)), ((0 : Int), (0 : Int)), (0 : Int))).1 ((List.getD x2 (toN x4) ((0 : Int), ((0 : Int), (0 : Int), (0 : Int)), ((0 : Int), (0 : Int)), (0 : Int))).1 == (1 : Int)) x6 (List.getD x2 (toN x4) ((0 : Int), ((0 : Int), (0 : Int), (0 : Int)), ((0 : Int), (0 : Int)), (0 : Int)))).bind fun o56 => match o56 with
          | .inl o57 =>
              again ((wrapI .i64 (x4 + (1 : Int))), (List.getD x2 (toN x4) ((0 : Int), ((0 : Int), (0 : Int), (0 : Int)), ((0 : Int), (0 : Int)), (0 : Int))).2.1)
          | .inr o58 =>
              some (.inr o58)))
    else
      some (.inl x6))

def f8_l0 (x1 : Int) (x2 : List (Int × (Int × Int × Int) × (Int × Int) × Int)) (x3 : Int) : Nat → Int × (Int × Int × Int) → Option (((Int × Int × Int)) ⊕ (Bool)) := loopF (f8_l0_b x1 x2 x3)

theorem f8_l0_ok (x1 : Int) (x2 : List (Int × (Int × Int × Int) × (Int × Int) × Int)) (x3 : Int) (x5 : Int × Int × Int) (k : Nat) (x4 : Int) (x6 : Int × Int × Int) {out : (((Int × Int × Int)) ⊕ (Bool))} (h : f8_l0 x1 x2 x3 k (x4, x6) = some out) : Run Pg 86 (bk1 (sq2 (sq1 (sq2 (sq2 c_8))))) ⟨[(3, (.d t2 x1)), (5, (.ptr 101 0)), (9, (.ptr 201 0)), (14, (.d t31 x2)), (15, (.d t2 x3)), (16, (.d t2 x4))], [(101, (.box (.vcons (.d t25 x5) .vnil))), (201, (.box (.vcons (.d t25 x6) .vnil)))]⟩ (f8_l0_post x1 x2 x3 x5 out) := by
  refine Run.loopN (by kernel_rfl) (fun m s => ∃ x4 x6, s = ⟨[(3, (.d t2 x1)), (5, (.ptr 101 0)), (9, (.ptr 201 0)), (14, (.d t31 x2)), (15, (.d t2 x3)), (16, (.d t2 x4))], [(101, (.box (.vcons (.d t25 x5) .vnil))), (201, (.box (.vcons (.d t25 x6) .vnil)))]⟩ ∧ f8_l0 x1 x2 x3 m (x4, x6) = some out) ?_ k ⟨x4, x6,  rfl, h⟩
  rintro m s ⟨x4, x6,  rfl, h⟩
  cases m with
  | zero => cases h
  | succ m =>
  replace h : f8_l0_b x1 x2 x3 (f8_l0 x1 x2 x3 m) (x4, x6) = some out := h
  unfold f8_l0_b at h
  refine Run.regN hX [] 400 [3, 5, 9, 14, 15, 16, 17] [101, 201] ⟨[(3, (.d t2 x1)), (5, (.ptr 101 0)), (9, (.ptr 201 0)), (14, (.d t31 x2)), (15, (.d t2 x3)), (16, (.d t2 x4)), (17, (.d t4 (decide (x4 < x3))))], [(101, (.box (.vcons (.d t25 x5) .vnil))), (201, (.box (.vcons (.d t25 x6) .vnil)))]⟩ [] (by kernel_rfl) (by kernel_rfl) trivial ?_
  refine Run.seqN (by kernel_rfl) ?_
  refine Run.condN (decide (x4 < x3)) (by kernel_rfl) (fun hb => ?_) (fun hb => ?_)
  · replace h := bif_t h hb
    refine Run.skipN (by kernel_rfl) ?_
    show Run Pg 86 _ _ _
    refine Run.seqN (by kernel_rfl) ?_
    refine Run.blockN 1 (by kernel_rfl) ?_
    obtain ⟨g_0, h⟩ := gd_elim h
    obtain ⟨g_1, h⟩ := gd_elim h
    refine Run.regN hX [] 500 [3, 5, 9, 11, 14, 15, 16] [101, 201, 502] ⟨[(3, (.d t2 x1)), (5, (.ptr 101 0)), (9, (.ptr 201 0)), (11, (.ptr 502 0)), (14, (.d t31 x2)), (15, (.d t2 x3)), (16, (.d t2 x4))], [(101, (.box (.vcons (.d t25 x5) .vnil))), (201, (.box (.vcons (.d t25 x6) .vnil))), (502, (.box (.vcons (.d t66 (List.getD x2 (toN x4) ((0 : Int), ((0 : Int), (0 : Int), (0 : Int)), ((0 : Int), (0 : Int)), (0 : Int)))) .vnil)))]⟩ [(0 ≤ x4), (x4 < ((List.length x2 : Nat) : Int))] (by kernel_rfl) (by kernel_rfl) ⟨g_0, g_1, trivial⟩ ?_
    rcases bif_elim h with ⟨hb0, h⟩ | ⟨hb0, h⟩
    · refine Run.regN hX [(6, .b true)] 600 [3, 5, 9, 11, 12, 14, 15, 16] [101, 201, 502] ⟨[(3, (.d t2 x1)), (5, (.ptr 101 0)), (9, (.ptr 201 0)), (11, (.ptr 502 0)), (12, (.d t4 ((List.getD x2 (toN x4) ((0 : Int), ((0 : Int), (0 : Int), (0 : Int)), ((0 : Int), (0 : Int)), (0 : Int))).2.1.2.1 == x6.2.1))), (14, (.d t31 x2)), (15, (.d t2 x3)), (16, (.d t2 x4))], [(101, (.box (.vcons (.d t25 x5) .vnil))), (201, (.box (.vcons (.d t25 x6) .vnil))), (502, (.box (.vcons (.d t66 (List.getD x2 (toN x4) ((0 : Int), ((0 : Int), (0 : Int), (0 : Int)), ((0 : Int), (0 : Int)), (0 : Int)))) .vnil)))]⟩ [((List.getD x2 (toN x4) ((0 : Int), ((0 : Int), (0 : Int), (0 : Int)), ((0 : Int), (0 : Int)), (0 : Int))).2.1.1 == x6.1) = true] (by kernel_rfl) (by kernel_rfl) ⟨hb0, trivial⟩ ?_
      refine Run.seqN (by kernel_rfl) ?_
      refine Run.regN hX [] 700 [3, 5, 9, 11, 12, 14, 15, 16, 35] [101, 201, 502] ⟨[(3, (.d t2 x1)), (5, (.ptr 101 0)), (9, (.ptr 201 0)), (11, (.ptr 502 0)), (12, (.d t4 ((List.getD x2 (toN x4) ((0 : Int), ((0 : Int), (0 : Int), (0 : Int)), ((0 : Int), (0 : Int)), (0 : Int))).2.1.2.1 == x6.2.1))), (14, (.d t31 x2)), (15, (.d t2 x3)), (16, (.d t2 x4)), (35, (.d t2 (List.getD x2 (toN x4) ((0 : Int), ((0 : Int), (0 : Int), (0 : Int)), ((0 : Int), (0 : Int)), (0 : Int))).1))], [(101, (.box (.vcons (.d t25 x5) .vnil))), (201, (.box (.vcons (.d t25 x6) .vnil))), (502, (.box (.vcons (.d t66 (List.getD x2 (toN x4) ((0 : Int), ((0 : Int), (0 : Int), (0 : Int)), ((0 : Int), (0 : Int)), (0 : Int)))) .vnil)))]⟩ [] (by kernel_rfl) (by kernel_rfl) trivial ?_
      refine Run.blockN 2 (by kernel_rfl) ?_
      refine Run.regN hX [] 900 [3, 5, 9, 11, 12, 14, 15, 16, 35, 36] [101, 201, 502] ⟨[(3, (.d t2 x1)), (5, (.ptr 101 0)), (9, (.ptr 201 0)), (11, (.ptr 502 0)), (12, (.d t4 ((List.getD x2 (toN x4) ((0 : Int), ((0 : Int), (0 : Int), (0 : Int)), ((0 : Int), (0 : Int)), (0 : Int))).2.1.2.1 == x6.2.1))), (14, (.d t31 x2)), (15, (.d t2 x3)), (16, (.d t2 x4)), (35, (.d t2 (List.getD x2 (toN x4) ((0 : Int), ((0 : Int), (0 : Int), (0 : Int)), ((0 : Int), (0 : Int)), (0 : Int))).1)), (36, (.d t4 ((List.getD x2 (toN x4) ((0 : Int), ((0 : Int), (0 : Int), (0 : Int)), ((0 : Int), (0 : Int)), (0 : Int))).1 == (1 : Int))))], [(101, (.box (.vcons (.d t25 x5) .vnil))), (201, (.box (.vcons (.d t25 x6) .vnil))), (502, (.box (.vcons (.d t66 (List.getD x2 (toN x4) ((0 : Int), ((0 : Int), (0 : Int), (0 : Int)), ((0 : Int), (0 : Int)), (0 : Int)))) .vnil)))]⟩ [] (by kernel_rfl) (by kernel_rfl) trivial ?_
      obtain ⟨o43, h_o43, h⟩ := bnd_elim h
      refine Run.mono (f8_c1_ok x1 ((List.getD x2 (toN x4) ((0 : Int), ((0 : Int), (0 : Int), (0 : Int)), ((0 : Int), (0 : Int)), (0 : Int))).2.1.2.1 == x6.2.1) x2 x3 x4 (List.getD x2 (toN x4) ((0 : Int), ((0 : Int), (0 : Int), (0 : Int)), ((0 : Int), (0 : Int)), (0 : Int))).1 ((List.getD x2 (toN x4) ((0 : Int), ((0 : Int), (0 : Int), (0 : Int)), ((0 : Int), (0 : Int)), (0 : Int))).1 == (1 : Int)) x5 x6 (List.getD x2 (toN x4) ((0 : Int), ((0 : Int), (0 : Int), (0 : Int)), ((0 : Int), (0 : Int)), (0 : Int))) h_o43) ?_
      rcases o43 with o44 | o45
      · rintro x s ⟨hx, hs⟩
        subst hx
        subst hs
        show Run Pg 86 _ _ _
        refine Run.regE hX [] 1500 [3, 5, 9, 14, 15, 16] [101, 201] ⟨[(3, (.d t2 x1)), (5, (.ptr 101 0)), (9, (.ptr 201 0)), (14, (.d t31 x2)), (15, (.d t2 x3)), (16, (.d t2 x4))], [(101, (.box (.vcons (.d t25 x5) .vnil))), (201, (.box (.vcons (.d t25 (List.getD x2 (toN x4) ((0 : Int), ((0 : Int), (0 : Int), (0 : Int)), ((0 : Int), (0 : Int)), (0 : Int))).2.1) .vnil)))]⟩ [] (by kernel_rfl) trivial ?_
        show Run Pg 86 _ _ _
        refine Run.regE hX [] 1600 [3, 5, 9, 14, 15, 16] [101, 201] ⟨[(3, (.d t2 x1)), (5, (.ptr 101 0)), (9, (.ptr 201 0)), (14, (.d t31 x2)), (15, (.d t2 x3)), (16, (.d t2 (wrapI .i64 (x4 + (1 : Int)))))], [(101, (.box (.vcons (.d t25 x5) .vnil))), (201, (.box (.vcons (.d t25 (List.getD x2 (toN x4) ((0 : Int), ((0 : Int), (0 : Int), (0 : Int)), ((0 : Int), (0 : Int)), (0 : Int))).2.1) .vnil)))]⟩ [] (by kernel_rfl) trivial ?_
        exact ⟨m, Nat.lt_succ_self m, _, _, rfl, h⟩
      · rintro x s ⟨hx, hr⟩
        subst hx
        replace h := Option.some.inj h
        subst h
        exact ⟨rfl, hr⟩
    · refine Run.regN hX [(6, .b false)] 600 [3, 5, 9, 11, 12, 14, 15, 16] [101, 201, 502] ⟨[(3, (.d t2 x1)), (5, (.ptr 101 0)), (9, (.ptr 201 0)), (11, (.ptr 502 0)), (12, (.d t4 false)), (14, (.d t31 x2)), (15, (.d t2 x3)), (16, (.d t2 x4))], [(101, (.box (.vcons (.d t25 x5) .vnil))), (201, (.box (.vcons (.d t25 x6) .vnil))), (502, (.box (.vcons (.d t66 (List.getD x2 (toN x4) ((0 : Int), ((0 : Int), (0 : Int), (0 : Int)), ((0 : Int), (0 : Int)), (0 : Int)))) .vnil)))]⟩ [((List.getD x2 (toN x4) ((0 : Int), ((0 : Int), (0 : Int), (0 : Int)), ((0 : Int), (0 : Int)), (0 : Int))).2.1.1 == x6.1) = false] (by kernel_rfl) (by kernel_rfl) ⟨hb0, trivial⟩ ?_
      refine Run.seqN (by kernel_rfl) ?_
      refine Run.regN hX [] 700 [3, 5, 9, 11, 12, 14, 15, 16, 35] [101, 201, 502] ⟨[(3, (.d t2 x1)), (5, (.ptr 101 0)), (9, (.ptr 201 0)), (11, (.ptr 502 0)), (12, (.d t4 false)), (14, (.d t31 x2)), (15, (.d t2 x3)), (16, (.d t2 x4)), (35, (.d t2 (List.getD x2 (toN x4) ((0 : Int), ((0 : Int), (0 : Int), (0 : Int)), ((0 : Int), (0 : Int)), (0 : Int))).1))], [(101, (.box (.vcons (.d t25 x5) .vnil))), (201, (.box (.vcons (.d t25 x6) .vnil))), (502, (.box (.vcons (.d t66 (List.getD x2 (toN x4) ((0 : Int), ((0 : Int), (0 : Int), (0 : Int)), ((0 : Int), (0 : Int)), (0 : Int)))) .vnil)))]⟩ [] (by kernel_rfl) (by kernel_rfl) trivial ?_
      refine Run.blockN 2 (by kernel_rfl) ?_
      refine Run.regN hX [] 900 [3, 5, 9, 11, 12, 14, 15, 16, 35, 36] [101, 201, 502] ⟨[(3, (.d t2 x1)), (5, (.ptr 101 0)), (9, (.ptr 201 0)), (11, (.ptr 502 0)), (12, (.d t4 false)), (14, (.d t31 x2)), (15, (.d t2 x3)), (16, (.d t2 x4)), (35, (.d t2 (List.getD x2 (toN x4) ((0 : Int), ((0 : Int), (0 : Int), (0 : Int)), ((0 : Int), (0 : Int)), (0 : Int))).1)), (36, (.d t4 ((List.getD x2 (toN x4) ((0 : Int), ((0 : Int), (0 : Int), (0 : Int)), ((0 : Int), (0 : Int)), (0 : Int))).1 == (1 : Int))))], [(101, (.box (.vcons (.d t25 x5) .vnil))), (201, (.box (.vcons (.d t25 x6) .vnil))), (502, (.box (.vcons (.d t66 (List.getD x2 (toN x4) ((0 : Int), ((0 : Int), (0 : Int), (0 : Int)), ((0 : Int), (0 : Int)), (0 : Int)))) .vnil)))]⟩ [] (by kernel_rfl) (by kernel_rfl) trivial ?_
      obtain ⟨o56, h_o56, h⟩ := bnd_elim h
      refine Run.mono (f8_c2_ok x1 false x2 x3 x4 (List.getD x2 (toN x4) ((0 : Int), ((0 : Int), (0 : Int), (0 : Int)), ((0 : Int), (0 : Int)), (0 : Int))).1 ((List.getD x2 (toN x4) ((0 : Int), ((0 : Int), (0 : Int), (0 : Int)), ((0 : Int), (0 : Int)), (0 : Int))).1 == (1 : Int)) x5 x6 (List.getD x2 (toN x4) ((0 : Int), ((0 : Int), (0 : Int), (0 : Int)), ((0 : Int), (0 : Int)), (0 : Int))) h_o56) ?_
      rcases o56 with o57 | o58
      · rintro x s ⟨hx, hs⟩
        subst hx
        subst hs
        show Run Pg 86 _ _ _
        refine Run.regE hX [] 1500 [3, 5, 9, 14, 15, 16] [101, 201] ⟨[(3, (.d t2 x1)), (5, (.ptr 101 0)), (9, (.ptr 201 0)), (14, (.d t31 x2)), (15, (.d t2 x3)), (16, (.d t2 x4))], [(101, (.box (.vcons (.d t25 x5) .vnil))), (201, (.box (.vcons (.d t25 (List.getD x2 (toN x4) ((0 : Int), ((0 : Int), (0 : Int), (0 : Int)), ((0 : Int), (0 : Int)), (0 : Int))).2.1) .vnil)))]⟩ [] (by kernel_rfl) trivial ?_
        show Run Pg 86 _ _ _
        refine Run.regE hX [] 1600 [3, 5, 9, 14, 15, 16] [101, 201] ⟨[(3, (.d t2 x1)), (5, (.ptr 101 0)), (9, (.ptr 201 0)), (14, (.d t31 x2)), (15, (.d t2 x3)), (16, (.d t2 (wrapI .i64 (x4 + (1 : Int)))))], [(101, (.box (.vcons (.d t25 x5) .vnil))), (201, (.box (.vcons (.d t25 (List.getD x2 (toN x4) ((0 : Int), ((0 : Int), (0 : Int), (0 : Int)), ((0 : Int), (0 : Int)), (0 : Int))).2.1) .vnil)))]⟩ [] (by kernel_rfl) trivial ?_
        exact ⟨m, Nat.lt_succ_self m, _, _, rfl, h⟩
      · rintro x s ⟨hx, hr⟩
        subst hx
        replace h := Option.some.inj h
        subst h
        exact ⟨rfl, hr⟩
  · replace h := bif_f h hb
    refine Run.keep (s' := ⟨[(5, (.ptr 101 0)), (9, (.ptr 201 0))], [(101, (.box (.vcons (.d t25 x5) .vnil))), (201, (.box (.vcons (.d t25 x6) .vnil)))]⟩) [5, 9] [101, 201] (by kernel_rfl) ?_
    refine Run.exitN 0 (by kernel_rfl) ?_
    replace h := Option.some.inj h
    subst h
    exact ⟨rfl, by kernel_rfl⟩

def F8 (a0 : Int × Int × Int) (a1 : Int × Int × Int) (a2 : List (Int × (Int × Int × Int) × (Int × Int) × Int)) (a3 : Int) : Option (Bool) :=
  ((f8_l0 a3 a2 (ofN (List.length a2)) (2 + List.length a2) ((0 : Int), a0)).bind fun o59 => match o59 with
    | .inl o60 =>
        some (eqD t25 o60 a1)
    | .inr o61 =>
        some o61)

theorem c8 {a0 : Int × Int × Int} {a1 : Int × Int × Int} {a2 : List (Int × (Int × Int × Int) × (Int × Int) × Int)} {a3 : Int} {r : Bool} (h : F8 a0 a1 a2 a3 = some r) : CallPure Pg 8 [(.d t25 a0), (.d t25 a1), (.d t31 a2), (.d t2 a3)] (.d t4 r) := by
  refine callPureN hX c_8 86 [.tmp 8] [4] Go.Proofs.Try.func8 (by kernel_rfl) (by kernel_rfl) (by kernel_rfl) (Nat.le_of_ble_eq_true rfl) rfl rfl ?_
  show Run Pg 86 c_8 ⟨[(0, (.d t25 a0)), (1, (.d t25 a1)), (2, (.d t31 a2)), (3, (.d t2 a3))], []⟩ (fin8 r)
  unfold F8 at h
  refine Run.regN hX [] 100 [2, 3, 4, 5] [100, 101] ⟨[(2, (.d t31 a2)), (3, (.d t2 a3)), (4, (.ptr 100 0)), (5, (.ptr 101 0))], [(100, (.box (.vcons (.d t25 a0) .vnil))), (101, (.box (.vcons (.d t25 a1) .vnil)))]⟩ [] (by kernel_rfl) (by kernel_rfl) trivial ?_
  refine Run.regN hX [] 200 [2, 3, 5, 9] [101, 201] ⟨[(2, (.d t31 a2)), (3, (.d t2 a3)), (5, (.ptr 101 0)), (9, (.ptr 201 0))], [(101, (.box (.vcons (.d t25 a1) .vnil))), (201, (.box (.vcons (.d t25 a0) .vnil)))]⟩ [] (by kernel_rfl) (by kernel_rfl) trivial ?_
  refine Run.seqN (by kernel_rfl) ?_
  refine Run.regN hX [] 300 [3, 5, 9, 14, 15, 16] [101, 201] ⟨[(3, (.d t2 a3)), (5, (.ptr 101 0)), (9, (.ptr 201 0)), (14, (.d t31 a2)), (15, (.d t2 (ofN (List.length a2)))), (16, (.d t2 (0 : Int)))], [(101, (.box (.vcons (.d t25 a1) .vnil))), (201, (.box (.vcons (.d t25 a0) .vnil)))]⟩ [] (by kernel_rfl) (by kernel_rfl) trivial ?_
  refine Run.blockN 0 (by kernel_rfl) ?_
  obtain ⟨o59, h_o59, h⟩ := bnd_elim h
  refine Run.mono (f8_l0_ok a3 a2 (ofN (List.length a2)) a1 _ (0 : Int) a0 h_o59) ?_
  rcases o59 with o60 | o61
  · rintro x s ⟨hx, hs⟩
    subst hx
    subst hs
    show Run Pg 86 _ _ _
    refine Run.regN hX [] 1700 [8] [] ⟨[(8, (.d t4 (eqD t25 o60 a1)))], []⟩ [] (by kernel_rfl) (by kernel_rfl) trivial ?_
    refine Run.retN (by kernel_rfl) ?_
    replace h := Option.some.inj h
    subst h
    exact ⟨[(.d t4 (eqD t25 o60 a1))], by kernel_rfl, by kernel_rfl⟩
  · rintro x s ⟨hx, hr⟩
    subst hx
    replace h := Option.some.inj h
    subst h
    exact hr

/-! ## f4 -/

noncomputable def c_4 : Code := body0 Go.Proofs.Try.f4

def fin4 (r : Bool) : Ex → St → Prop := endK X0 [.tmp 6] [4] (.d t4 r)

def F4 (a0 : Int × Int × Int × Int × Int × Int × (List (Int × Int × Int × Int × Int)) × Int) (a1 : (Int × Int × Int) × (Int × Int × Int)) (a2 : Int × Int × Int) : Option (Bool) :=
  (F5 ).bind fun y1 =>
  (bif (!y1) then
    (F5 ).bind fun y3 =>
    some y3
  else
    (F11 a0).bind fun y2 =>
    (bif (!y2) then
      (F5 ).bind fun y4 =>
      some y4
    else
      (F12 a0 a1.1 a1.2 a2.1 a2.2.1 a2.2.2).bind fun y5 =>
      (F13 a0 a1.1 a1.2 a2.1 a2.2.1 a2.2.2).bind fun y6 =>
      (bif (y6 != (0 : Int)) then
        (bif (y5.2 == y6) then
          some ((ofN (List.length y5.1)) == (0 : Int))
        else
          some false)
      else
        (F15 a0 a2.1 a2.2.1).bind fun y7 =>
        (F10 a1.1.1 a1.1.2.1).bind fun y8 =>
        (F10 a1.2.1 a1.2.2.1).bind fun y9 =>
        (F14 y7 y8 y9).bind fun y10 =>
        (bif (y10.2 != (0 : Int)) then
          (bif (y5.2 == y10.2) then
            some ((ofN (List.length y5.1)) == (0 : Int))
          else
            some false)
        else
          (bif (y5.2 == (0 : Int)) then
            (F17 a1.1 a1.2 a2.1 a2.2.2 y10.1).bind fun y11 =>
            (F16 y5.1 y11).bind fun y12 =>
            (bif y12 then
              (F8 a1.1 a1.2 y5.1 a2.1).bind fun y13 =>
              some y13
            else
              some false)
          else
            some false)))))

theorem c4 {a0 : Int × Int × Int × Int × Int × Int × (List (Int × Int × Int × Int × Int)) × Int} {a1 : (Int × Int × Int) × (Int × Int × Int)} {a2 : Int × Int × Int} {r : Bool} (h : F4 a0 a1 a2 = some r) : CallPure Pg 4 [(.d t23 a0), (.d t27 a1), (.d t25 a2)] (.d t4 r) := by
  refine callPureN hX c_4 115 [.tmp 6] [4] Go.Proofs.Try.func4 (by kernel_rfl) (by kernel_rfl) (by kernel_rfl) (Nat.le_of_ble_eq_true rfl) rfl rfl ?_
  show Run Pg 115 c_4 ⟨[(0, (.d t23 a0)), (1, (.d t27 a1)), (2, (.d t25 a2))], []⟩ (fin4 r)
  unfold F4 at h
  refine Run.regN hX [] 100 [3, 4, 5] [100, 101, 102] ⟨[(3, (.ptr 100 0)), (4, (.ptr 101 0)), (5, (.ptr 102 0))], [(100, (.box (.vcons (.d t23 a0) .vnil))), (101, (.box (.vcons (.d t27 a1) .vnil))), (102, (.box (.vcons (.d t25 a2) .vnil)))]⟩ [] (by kernel_rfl) (by kernel_rfl) trivial ?_
  refine Run.seqN (by kernel_rfl) ?_
  obtain ⟨y1, h_y1, h⟩ := bnd_elim h
  rcases bif_elim h with ⟨hb1, h⟩ | ⟨hb1, h⟩
  · refine Run.regN hX [(0, .call (.d t4 y1)), (2, .b true)] 200 [3, 4, 5, 21] [100, 101, 102] ⟨[(3, (.ptr 100 0)), (4, (.ptr 101 0)), (5, (.ptr 102 0)), (21, (.d t4 true))], [(100, (.box (.vcons (.d t23 a0) .vnil))), (101, (.box (.vcons (.d t27 a1) .vnil))), (102, (.box (.vcons (.d t25 a2) .vnil)))]⟩ [CallPure Pg 5 [] (.d t4 y1), (!y1) = true] (by kernel_rfl) (by kernel_rfl) ⟨(c5 h_y1), hb1, trivial⟩ ?_
    refine Run.condN true (by kernel_rfl) (fun hb => ?_) (fun hb => (by cases hb))
    obtain ⟨y3, h_y3, h⟩ := bnd_elim h
    refine Run.regN hX [(0, .call (.d t4 y3))] 300 [6] [] ⟨[(6, (.d t4 y3))], []⟩ [CallPure Pg 5 [] (.d t4 y3)] (by kernel_rfl) (by kernel_rfl) ⟨(c5 h_y3), trivial⟩ ?_
    refine Run.retN (by kernel_rfl) ?_
    replace h := Option.some.inj h
    subst h
    exact ⟨[(.d t4 y3)], by kernel_rfl, by kernel_rfl⟩
  · obtain ⟨y2, h_y2, h⟩ := bnd_elim h
    refine Run.regN hX [(0, .call (.d t4 y1)), (2, .b false), (4, .call (.d t4 y2))] 200 [3, 4, 5, 21] [100, 101, 102] ⟨[(3, (.ptr 100 0)), (4, (.ptr 101 0)), (5, (.ptr 102 0)), (21, (.d t4 (!y2)))], [(100, (.box (.vcons (.d t23 a0) .vnil))), (101, (.box (.vcons (.d t27 a1) .vnil))), (102, (.box (.vcons (.d t25 a2) .vnil)))]⟩ [CallPure Pg 5 [] (.d t4 y1), (!y1) = false, CallPure Pg 11 [(.d t23 a0)] (.d t4 y2)] (by kernel_rfl) (by kernel_rfl) ⟨(c5 h_y1), hb1, (c11 h_y2), trivial⟩ ?_
    refine Run.condN (!y2) (by kernel_rfl) (fun hb => ?_) (fun hb => ?_)
    · replace h := bif_t h hb
      obtain ⟨y4, h_y4, h⟩ := bnd_elim h
      refine Run.regN hX [(0, .call (.d t4 y4))] 300 [6] [] ⟨[(6, (.d t4 y4))], []⟩ [CallPure Pg 5 [] (.d t4 y4)] (by kernel_rfl) (by kernel_rfl) ⟨(c5 h_y4), trivial⟩ ?_
      refine Run.retN (by kernel_rfl) ?_
      replace h := Option.some.inj h
      subst h
      exact ⟨[(.d t4 y4)], by kernel_rfl, by kernel_rfl⟩
    · replace h := bif_f h hb
      refine Run.skipN (by kernel_rfl) ?_
      show Run Pg 115 _ _ _
      refine Run.regN hX [] 400 [3, 4, 7, 8, 9] [100, 101] ⟨[(3, (.ptr 100 0)), (4, (.ptr 101 0)), (7, (.d t2 a2.1)), (8, (.d t2 a2.2.1)), (9, (.d t2 a2.2.2))], [(100, (.box (.vcons (.d t23 a0) .vnil))), (101, (.box (.vcons (.d t27 a1) .vnil)))]⟩ [(0 ≤ (0 : Int)), (0 ≤ (1 : Int)), (0 ≤ (2 : Int))] (by kernel_rfl) (by kernel_rfl) ⟨(by decide), (by decide), (by decide), trivial⟩ ?_
      obtain ⟨y5, h_y5, h⟩ := bnd_elim h
      refine Run.regN hX [(8, .call (.tup (.vcons (.d t31 y5.1) (.vcons (.d t2 y5.2) .vnil))))] 500 [3, 4, 7, 8, 9, 10, 11] [100, 101] ⟨[(3, (.ptr 100 0)), (4, (.ptr 101 0)), (7, (.d t2 a2.1)), (8, (.d t2 a2.2.1)), (9, (.d t2 a2.2.2)), (10, (.d t31 y5.1)), (11, (.d t2 y5.2))], [(100, (.box (.vcons (.d t23 a0) .vnil))), (101, (.box (.vcons (.d t27 a1) .vnil)))]⟩ [(0 ≤ (0 : Int)), (0 ≤ (1 : Int)), CallPure Pg 12 [(.d t23 a0), (.d t25 a1.1), (.d t25 a1.2), (.d t2 a2.1), (.d t2 a2.2.1), (.d t2 a2.2.2)] (.tup (.vcons (.d t31 y5.1) (.vcons (.d t2 y5.2) .vnil)))] (by kernel_rfl) (by kernel_rfl) ⟨(by decide), (by decide), (c12 h_y5), trivial⟩ ?_
      refine Run.seqN (by kernel_rfl) ?_
      obtain ⟨y6, h_y6, h⟩ := bnd_elim h
      refine Run.regN hX [(8, .call (.d t2 y6))] 600 [3, 4, 7, 8, 9, 10, 11, 12] [100, 101] ⟨[(3, (.ptr 100 0)), (4, (.ptr 101 0)), (7, (.d t2 a2.1)), (8, (.d t2 a2.2.1)), (9, (.d t2 a2.2.2)), (10, (.d t31 y5.1)), (11, (.d t2 y5.2)), (12, (.d t2 y6))], [(100, (.box (.vcons (.d t23 a0) .vnil))), (101, (.box (.vcons (.d t27 a1) .vnil)))]⟩ [(0 ≤ (0 : Int)), (0 ≤ (1 : Int)), CallPure Pg 13 [(.d t23 a0), (.d t25 a1.1), (.d t25 a1.2), (.d t2 a2.1), (.d t2 a2.2.1), (.d t2 a2.2.2)] (.d t2 y6)] (by kernel_rfl) (by kernel_rfl) ⟨(by decide), (by decide), (c13 h_y6), trivial⟩ ?_
      refine Run.regN hX [] 700 [3, 4, 7, 8, 9, 10, 11, 12, 51] [100, 101] ⟨[(3, (.ptr 100 0)), (4, (.ptr 101 0)), (7, (.d t2 a2.1)), (8, (.d t2 a2.2.1)), (9, (.d t2 a2.2.2)), (10, (.d t31 y5.1)), (11, (.d t2 y5.2)), (12, (.d t2 y6)), (51, (.d t4 (y6 != (0 : Int))))], [(100, (.box (.vcons (.d t23 a0) .vnil))), (101, (.box (.vcons (.d t27 a1) .vnil)))]⟩ [] (by kernel_rfl) (by kernel_rfl) trivial ?_
      refine Run.condN (y6 != (0 : Int)) (by kernel_rfl) (fun hb => ?_) (fun hb => ?_)
      · replace h := bif_t h hb
        rcases bif_elim h with ⟨hb0, h⟩ | ⟨hb0, h⟩
        · refine Run.regN hX [(3, .b true)] 800 [6] [] ⟨[(6, (.d t4 ((ofN (List.length y5.1)) == (0 : Int))))], []⟩ [(y5.2 == y6) = true] (by kernel_rfl) (by kernel_rfl) ⟨hb0, trivial⟩ ?_
          refine Run.retN (by kernel_rfl) ?_
          replace h := Option.some.inj h
          subst h
          exact ⟨[(.d t4 ((ofN (List.length y5.1)) == (0 : Int)))], by kernel_rfl, by kernel_rfl⟩
        · refine Run.regN hX [(3, .b false)] 800 [6] [] ⟨[(6, (.d t4 false))], []⟩ [(y5.2 == y6) = false] (by kernel_rfl) (by kernel_rfl) ⟨hb0, trivial⟩ ?_
          refine Run.retN (by kernel_rfl) ?_
          replace h := Option.some.inj h
          subst h
          exact ⟨[(.d t4 false)], by kernel_rfl, by kernel_rfl⟩
      · replace h := bif_f h hb
        refine Run.skipN (by kernel_rfl) ?_
        show Run Pg 115 _ _ _
        obtain ⟨y7, h_y7, h⟩ := bnd_elim h
        obtain ⟨y8, h_y8, h⟩ := bnd_elim h
        obtain ⟨y9, h_y9, h⟩ := bnd_elim h
        obtain ⟨y10, h_y10, h⟩ := bnd_elim h
        refine Run.regN hX [(3, .call (.d t22 y7)), (10, .call (.d t28 y8)), (17, .call (.d t28 y9)), (18, .call (.tup (.vcons (.d t45 y10.1) (.vcons (.d t2 y10.2) .vnil))))] 900 [4, 7, 9, 10, 11, 13, 14] [101] ⟨[(4, (.ptr 101 0)), (7, (.d t2 a2.1)), (9, (.d t2 a2.2.2)), (10, (.d t31 y5.1)), (11, (.d t2 y5.2)), (13, (.d t45 y10.1)), (14, (.d t2 y10.2))], [(101, (.box (.vcons (.d t27 a1) .vnil)))]⟩ [CallPure Pg 15 [(.d t23 a0), (.d t2 a2.1), (.d t2 a2.2.1)] (.d t22 y7), (0 ≤ (0 : Int)), (0 ≤ (0 : Int)), CallPure Pg 10 [(.d t2 a1.1.1), (.d t2 a1.1.2.1)] (.d t28 y8), (0 ≤ (1 : Int)), (0 ≤ (1 : Int)), CallPure Pg 10 [(.d t2 a1.2.1), (.d t2 a1.2.2.1)] (.d t28 y9), CallPure Pg 14 [(.d t22 y7), (.d t28 y8), (.d t28 y9)] (.tup (.vcons (.d t45 y10.1) (.vcons (.d t2 y10.2) .vnil)))] (by kernel_rfl) (by kernel_rfl) ⟨(c15 h_y7), (by decide), (by decide), (c10 h_y8), (by decide), (by decide), (c10 h_y9), (c14 h_y10), trivial⟩ ?_
        refine Run.seqN (by kernel_rfl) ?_
        refine Run.regN hX [] 1000 [4, 7, 9, 10, 11, 13, 14, 83] [101] ⟨[(4, (.ptr 101 0)), (7, (.d t2 a2.1)), (9, (.d t2 a2.2.2)), (10, (.d t31 y5.1)), (11, (.d t2 y5.2)), (13, (.d t45 y10.1)), (14, (.d t2 y10.2)), (83, (.d t4 (y10.2 != (0 : Int))))], [(101, (.box (.vcons (.d t27 a1) .vnil)))]⟩ [] (by kernel_rfl) (by kernel_rfl) trivial ?_
        refine Run.condN (y10.2 != (0 : Int)) (by kernel_rfl) (fun hb => ?_) (fun hb => ?_)
        · replace h := bif_t h hb
          rcases bif_elim h with ⟨hb0, h⟩ | ⟨hb0, h⟩
          · refine Run.regN hX [(3, .b true)] 1100 [6] [] ⟨[(6, (.d t4 ((ofN (List.length y5.1)) == (0 : Int))))], []⟩ [(y5.2 == y10.2) = true] (by kernel_rfl) (by kernel_rfl) ⟨hb0, trivial⟩ ?_
            refine Run.retN (by kernel_rfl) ?_
            replace h := Option.some.inj h
            subst h
            exact ⟨[(.d t4 ((ofN (List.length y5.1)) == (0 : Int)))], by kernel_rfl, by kernel_rfl⟩
          · refine Run.regN hX [(3, .b false)] 1100 [6] [] ⟨[(6, (.d t4 false))], []⟩ [(y5.2 == y10.2) = false] (by kernel_rfl) (by kernel_rfl) ⟨hb0, trivial⟩ ?_
            refine Run.retN (by kernel_rfl) ?_
            replace h := Option.some.inj h
            subst h
            exact ⟨[(.d t4 false)], by kernel_rfl, by kernel_rfl⟩
        · replace h := bif_f h hb
          refine Run.skipN (by kernel_rfl) ?_
          show Run Pg 115 _ _ _
          rcases bif_elim h with ⟨hb0, h⟩ | ⟨hb0, h⟩
          · obtain ⟨y11, h_y11, h⟩ := bnd_elim h
            obtain ⟨y12, h_y12, h⟩ := bnd_elim h
            rcases bif_elim h with ⟨hb5, h⟩ | ⟨hb5, h⟩
            · obtain ⟨y13, h_y13, h⟩ := bnd_elim h
              refine Run.regN hX [(2, .b true), (11, .call (.d t31 y11)), (12, .call (.d t4 y12)), (14, .b true), (21, .call (.d t4 y13))] 1200 [6] [] ⟨[(6, (.d t4 y13))], []⟩ [(y5.2 == (0 : Int)) = true, (0 ≤ (0 : Int)), (0 ≤ (1 : Int)), CallPure Pg 17 [(.d t25 a1.1), (.d t25 a1.2), (.d t2 a2.1), (.d t2 a2.2.2), (.d t45 y10.1)] (.d t31 y11), CallPure Pg 16 [(.d t31 y5.1), (.d t31 y11)] (.d t4 y12), y12 = true, (0 ≤ (0 : Int)), (0 ≤ (1 : Int)), CallPure Pg 8 [(.d t25 a1.1), (.d t25 a1.2), (.d t31 y5.1), (.d t2 a2.1)] (.d t4 y13)] (by kernel_rfl) (by kernel_rfl) ⟨hb0, (by decide), (by decide), (c17 h_y11), (c16 h_y12), hb5, (by decide), (by decide), (c8 h_y13), trivial⟩ ?_
              refine Run.retN (by kernel_rfl) ?_
              replace h := Option.some.inj h
              subst h
              exact ⟨[(.d t4 y13)], by kernel_rfl, by kernel_rfl⟩
            · refine Run.regN hX [(2, .b true), (11, .call (.d t31 y11)), (12, .call (.d t4 y12)), (14, .b false)] 1200 [6] [] ⟨[(6, (.d t4 false))], []⟩ [(y5.2 == (0 : Int)) = true, (0 ≤ (0 : Int)), (0 ≤ (1 : Int)), CallPure Pg 17 [(.d t25 a1.1), (.d t25 a1.2), (.d t2 a2.1), (.d t2 a2.2.2), (.d t45 y10.1)] (.d t31 y11), CallPure Pg 16 [(.d t31 y5.1), (.d t31 y11)] (.d t4 y12), y12 = false] (by kernel_rfl) (by kernel_rfl) ⟨hb0, (by decide), (by decide), (c17 h_y11), (c16 h_y12), hb5, trivial⟩ ?_
              refine Run.retN (by kernel_rfl) ?_
              replace h := Option.some.inj h
              subst h
              exact ⟨[(.d t4 false)], by kernel_rfl, by kernel_rfl⟩
          · refine Run.regN hX [(2, .b false)] 1200 [6] [] ⟨[(6, (.d t4 false))], []⟩ [(y5.2 == (0 : Int)) = false] (by kernel_rfl) (by kernel_rfl) ⟨hb0, trivial⟩ ?_
            refine Run.retN (by kernel_rfl) ?_
            replace h := Option.some.inj h
            subst h
            exact ⟨[(.d t4 false)], by kernel_rfl, by kernel_rfl⟩


end Go.Sw
