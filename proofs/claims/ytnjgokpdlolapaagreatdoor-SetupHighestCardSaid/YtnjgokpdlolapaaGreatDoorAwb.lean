/- awake of the law hands back true, and what SetupHighest computes; no conditions. -/
import Derived.Test.YtnjgokpdlolapaaGreatDoorAw
namespace Go.Sw
open Go
set_option linter.unusedVariables false
theorem e19_0 : ((exFn E2 60 false 19 [.d .str (⟨#[115, 116, 111, 99, 107, 32, 48, 32, 48, 32, 49, 48, 48, 32, 54, 48, 32, 50, 48, 32, 53, 10, 115, 97, 102, 101, 32, 49, 53, 10, 99, 108, 97, 109, 112, 32, 48, 32, 48, 32, 49, 48, 32, 49, 48, 32, 56, 46, 53, 10]⟩ : ByteArray)] [] 300).map fun q => (q.1, q.2.2.2)) = some ((.tup (.vcons (.d t23 ((0 : Int), ((0 : Int), ((100000 : Int), ((60000 : Int), ((20000 : Int), ((5000 : Int), ([((0 : Int), ((0 : Int), ((10000 : Int), ((10000 : Int), (8500 : Int)))))], (15000 : Int))))))))) (.vcons (.d t2 (0 : Int)) (.vcons (.d t2 (0 : Int)) .vnil)))), false) := by kernel_rfl
def tab19 : List (ByteArray × V) := [((⟨#[115, 116, 111, 99, 107, 32, 48, 32, 48, 32, 49, 48, 48, 32, 54, 48, 32, 50, 48, 32, 53, 10, 115, 97, 102, 101, 32, 49, 53, 10, 99, 108, 97, 109, 112, 32, 48, 32, 48, 32, 49, 48, 32, 49, 48, 32, 56, 46, 53, 10]⟩ : ByteArray), (.tup (.vcons (.d t23 ((0 : Int), ((0 : Int), ((100000 : Int), ((60000 : Int), ((20000 : Int), ((5000 : Int), ([((0 : Int), ((0 : Int), ((10000 : Int), ((10000 : Int), (8500 : Int)))))], (15000 : Int))))))))) (.vcons (.d t2 (0 : Int)) (.vcons (.d t2 (0 : Int)) .vnil)))))]
theorem tab19_ok : TabOk Pg 19 tab19 := ⟨ex_pure hX2 kk2 rfl e19_0, trivial⟩
def kn3 (g : Nat) (vs : List V) : Option V := match g with
  | 19 => kS tab19 vs
  | g => kn2 g vs
theorem kn3_ok : ∀ g vs r, kn3 g vs = some r → CallPure Pg g vs r := by
  intro g vs r h
  unfold kn3 at h
  split at h
  · exact kS_ok tab19_ok h
  · exact kn2_ok _ _ _ h
noncomputable def E3 : Env := ⟨Pg, X0, kn3, bnA⟩
theorem hX3 : TyOk E3.P E3.X := hX
theorem kk3 : KnOk E3 := kn3_ok
end Go.Sw

namespace Go.Sw
open Go
set_option linter.unusedVariables false
theorem e7 : ((exFn E3 60 false 7 [] [] 300).map fun q => (q.1, q.2.2.2)) = some (.d .bool true, false) := by kernel_rfl
theorem awake_pure : CallPure Pg 7 [] (.d .bool true) := ex_pure hX3 kk3 rfl e7
end Go.Sw

namespace Go.Sw
open Go Go.Sw
set_option linter.unusedSimpArgs false
set_option linter.unusedVariables false

/-! ## f7 -/

def F7  : Option (Bool) :=
 some true

theorem c7 {r : Bool} (h : F7 = some r) : CallPure Pg 7 [] (.d t4 r) := by
  obtain rfl : true = r := Option.some.inj h
  exact awake_pure

/-! ## f4 -/

noncomputable def c_4 : Code := body0 Go.Proofs.Tryz.f4

def fin4 (r : Bool) : Ex → St → Prop := endK X0 [.tmp 6] [4] (.d t4 r)

def F4 (a0 : Int × Int × Int × Int × Int × Int × (List (Int × Int × Int × Int × Int)) × Int) (a1 : (Int × Int) × (Int × Int)) (a2 : Int) : Option (Bool) :=
 (F7 ).bind fun y1 =>
 (bif (!y1) then
 (F7 ).bind fun y3 =>
 some y3
 else
 (F12 a0 a1 a2).bind fun y2 =>
 (bif (!y2) then
 (F7 ).bind fun y4 =>
 some y4
 else
 (F13 a0 a1.1 a1.2 a2).bind fun y5 =>
 (F14 a0 a1.1 a1.2 a2).bind fun y6 =>
 (F13 a0 a1.2 a1.1 a2).bind fun y7 =>
 (bif (y5.2 == y6.2) then
 (bif (y5.1 == y6.1) then
 (bif (y7.2 == y5.2) then
 some (y7.1 == y5.1)
 else
 some false)
 else
 some false)
 else
 some false)))

theorem c4 {a0 : Int × Int × Int × Int × Int × Int × (List (Int × Int × Int × Int × Int)) × Int} {a1 : (Int × Int) × (Int × Int)} {a2 : Int} {r : Bool} (h : F4 a0 a1 a2 = some r) : CallPure Pg 4 [(.d t23 a0), (.d t33 a1), (.d t2 a2)] (.d t4 r) := by
  refine callPureN hX c_4 71 [.tmp 6] [4] Go.Proofs.Tryz.func4 (by kernel_rfl) (by kernel_rfl) (by kernel_rfl) (Nat.le_of_ble_eq_true rfl) rfl rfl ?_
  show Run Pg 71 c_4 ⟨[(0, (.d t23 a0)), (1, (.d t33 a1)), (2, (.d t2 a2))], []⟩ (fin4 r)
  unfold F4 at h
  refine Run.rN hX [] 100 [2, 3, 4] [100, 101] ⟨[(2, (.d t2 a2)), (3, (.ptr 100 0)), (4, (.ptr 101 0))], [(100, (.box 24 (.vcons (.d t23 a0) .vnil))), (101, (.box 33 (.vcons (.d t33 a1) .vnil)))]⟩ aN ?_
  refine Run.sq ?_
  obtain ⟨y1, h_y1, h⟩ := bnd_elim h
  rcases bif_elim h with ⟨hb1, h⟩ | ⟨hb1, h⟩
  · refine Run.rN hX [(0, .call (.d t4 y1)), (2, .b true)] 200 [2, 3, 4, 21] [100, 101] ⟨[(2, (.d t2 a2)), (3, (.ptr 100 0)), (4, (.ptr 101 0)), (21, (.d t4 true))], [(100, (.box 24 (.vcons (.d t23 a0) .vnil))), (101, (.box 33 (.vcons (.d t33 a1) .vnil)))]⟩ (aC (c7 h_y1) (aC hb1 aN)) ?_
    refine Run.cd true (fun hb => ?_) (fun hb => (by cases hb))
    obtain ⟨y3, h_y3, h⟩ := bnd_elim h
    refine Run.rN hX [(0, .call (.d t4 y3))] 300 [6] [] ⟨[(6, (.d t4 y3))], []⟩ (aC (c7 h_y3) aN) ?_
    refine Run.rt ?_
    obtain rfl := sI h
    exact ⟨[(.d t4 y3)], by kernel_rfl, by kernel_rfl⟩
  · obtain ⟨y2, h_y2, h⟩ := bnd_elim h
    refine Run.rN hX [(0, .call (.d t4 y1)), (2, .b false), (6, .call (.d t4 y2))] 200 [2, 3, 4, 21] [100, 101] ⟨[(2, (.d t2 a2)), (3, (.ptr 100 0)), (4, (.ptr 101 0)), (21, (.d t4 (!y2)))], [(100, (.box 24 (.vcons (.d t23 a0) .vnil))), (101, (.box 33 (.vcons (.d t33 a1) .vnil)))]⟩ (aC (c7 h_y1) (aC hb1 (aC (c12 h_y2) aN))) ?_
    refine Run.cd (!y2) (fun hb => ?_) (fun hb => ?_)
    · replace h := bif_t h hb
      obtain ⟨y4, h_y4, h⟩ := bnd_elim h
      refine Run.rN hX [(0, .call (.d t4 y4))] 300 [6] [] ⟨[(6, (.d t4 y4))], []⟩ (aC (c7 h_y4) aN) ?_
      refine Run.rt ?_
      obtain rfl := sI h
      exact ⟨[(.d t4 y4)], by kernel_rfl, by kernel_rfl⟩
    · replace h := bif_f h hb
      refine Run.sk ?_
      show Run Pg 71 _ _ _
      obtain ⟨y5, h_y5, h⟩ := bnd_elim h
      refine Run.rN hX [(6, .call (.tup (.vcons (.d t2 y5.1) (.vcons (.d t4 y5.2) .vnil))))] 400 [2, 3, 4, 7, 8] [100, 101] ⟨[(2, (.d t2 a2)), (3, (.ptr 100 0)), (4, (.ptr 101 0)), (7, (.d t2 y5.1)), (8, (.d t4 y5.2))], [(100, (.box 24 (.vcons (.d t23 a0) .vnil))), (101, (.box 33 (.vcons (.d t33 a1) .vnil)))]⟩ (aC (show (0 ≤ (0 : Int)) from (by decide)) (aC (show (0 ≤ (1 : Int)) from (by decide)) (aC (c13 h_y5) aN))) ?_
      obtain ⟨y6, h_y6, h⟩ := bnd_elim h
      refine Run.rN hX [(6, .call (.tup (.vcons (.d t2 y6.1) (.vcons (.d t4 y6.2) .vnil))))] 500 [2, 3, 4, 7, 8, 9, 10] [100, 101] ⟨[(2, (.d t2 a2)), (3, (.ptr 100 0)), (4, (.ptr 101 0)), (7, (.d t2 y5.1)), (8, (.d t4 y5.2)), (9, (.d t2 y6.1)), (10, (.d t4 y6.2))], [(100, (.box 24 (.vcons (.d t23 a0) .vnil))), (101, (.box 33 (.vcons (.d t33 a1) .vnil)))]⟩ (aC (show (0 ≤ (0 : Int)) from (by decide)) (aC (show (0 ≤ (1 : Int)) from (by decide)) (aC (c14 h_y6) aN))) ?_
      obtain ⟨y7, h_y7, h⟩ := bnd_elim h
      refine Run.rN hX [(6, .call (.tup (.vcons (.d t2 y7.1) (.vcons (.d t4 y7.2) .vnil))))] 600 [7, 8, 9, 10, 11, 12] [] ⟨[(7, (.d t2 y5.1)), (8, (.d t4 y5.2)), (9, (.d t2 y6.1)), (10, (.d t4 y6.2)), (11, (.d t2 y7.1)), (12, (.d t4 y7.2))], []⟩ (aC (show (0 ≤ (1 : Int)) from (by decide)) (aC (show (0 ≤ (0 : Int)) from (by decide)) (aC (c13 h_y7) aN))) ?_
      rcases bif_elim h with ⟨hb0, h⟩ | ⟨hb0, h⟩
      · rcases bif_elim h with ⟨hb1, h⟩ | ⟨hb1, h⟩
        · rcases bif_elim h with ⟨hb2, h⟩ | ⟨hb2, h⟩
          · refine Run.rN hX [(3, .b true), (8, .b true), (13, .b true)] 700 [6] [] ⟨[(6, (.d t4 (y7.1 == y5.1)))], []⟩ (aC hb0 (aC hb1 (aC hb2 aN))) ?_
            refine Run.rt ?_
            obtain rfl := sI h
            exact ⟨[(.d t4 (y7.1 == y5.1))], by kernel_rfl, by kernel_rfl⟩
          · refine Run.rN hX [(3, .b true), (8, .b true), (13, .b false)] 700 [6] [] ⟨[(6, (.d t4 false))], []⟩ (aC hb0 (aC hb1 (aC hb2 aN))) ?_
            refine Run.rt ?_
            obtain rfl := sI h
            exact ⟨[(.d t4 false)], by kernel_rfl, by kernel_rfl⟩
        · refine Run.rN hX [(3, .b true), (8, .b false)] 700 [6] [] ⟨[(6, (.d t4 false))], []⟩ (aC hb0 (aC hb1 aN)) ?_
          refine Run.rt ?_
          obtain rfl := sI h
          exact ⟨[(.d t4 false)], by kernel_rfl, by kernel_rfl⟩
      · refine Run.rN hX [(3, .b false)] 700 [6] [] ⟨[(6, (.d t4 false))], []⟩ (aC hb0 aN) ?_
        refine Run.rt ?_
        obtain rfl := sI h
        exact ⟨[(.d t4 false)], by kernel_rfl, by kernel_rfl⟩

end Go.Sw
