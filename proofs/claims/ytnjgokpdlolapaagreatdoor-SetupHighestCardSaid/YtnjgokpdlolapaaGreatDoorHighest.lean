/- SetupHighest returns true for every input and leaves its arguments as they were, with the listed variables tied to the text; no conditions. -/
import Derived.Test.YtnjgokpdlolapaaGreatDoorSwc
import Derived.Test.YtnjgokpdlolapaaGreatDoorHighestLaw
import Derived.Test.YtnjgokpdlolapaaGreatDoorRows
import Derived.Test.YtnjgokpdlolapaaGreatDoorCards
import Derived.Test.YtnjgokpdlolapaaGreatDoorTie
import Derived.ProofKit
import Derived.LaidMore
import Derived.Lay
import Derived.SevenTiedAt
import Derived.Stop.Joined
namespace Go.Proofs.YtnjgokpdlolapaaGreatDoor
open Go.ChangeShapes Go.WideShapes Go.ChangeAt Go.RowKit Go.Sw

theorem own : ownKnob Tryz.prog.godebug = none := by kernel_rfl
theorem laidOut : laidOutB Tryz.prog = true := by kernel_rfl
theorem gPow : Tryz.prog.globalNamed "internal/strconv.uint64pow10" = some 0 := by kernel_rfl
theorem tPow : (Tryz.prog.globals[0]?).map (·.type) = some 203 := by kernel_rfl
theorem uPow : Tryz.prog.underlying 203 = some (.array 20 107) := by kernel_rfl
theorem u107 : Tryz.prog.underlying 107 = some (.int .u64) := by kernel_rfl
theorem c107 : Tryz.prog.cellsOf 107 = 1 := by kernel_rfl
theorem u3 : Tryz.prog.underlying 2 = some (.int .i64) := by kernel_rfl
theorem u4 : Tryz.prog.underlying 4 = some .bool := by kernel_rfl
def laidL : List (String × DataW Unit) := [("math/bits.deBruijn32tab", Rows.laid_math_bits_deBruijn32tab), ("math/bits.deBruijn64tab", Rows.laid_math_bits_deBruijn64tab), ("internal/strconv.uint64pow10", Rows.laid_internal_strconv_uint64pow10), ("unicode/utf8.acceptRanges", Rows.laid_unicode_utf8_acceptRanges), ("strconv.ErrRange", Rows.laid_strconv_ErrRange), ("strconv.ErrSyntax", Rows.laid_strconv_ErrSyntax), ("unicode/utf8.first", Rows.laid_unicode_utf8_first)]
theorem glw {W : World} (h : laidMetH Tryz.prog laidL W) : Gl Tryz.prog (fun _ => False) dead W := by
  rw [MakeChecks.laidMetH_plain _ _ _ (by kernel_rfl)] at h
  exact gl_of (d := Rows.laid_internal_strconv_uint64pow10) h (List.mem_cons_of_mem _ (List.mem_cons_of_mem _ (List.mem_cons_self ..))) rfl gPow tPow uPow u107 c107
theorem laidW (os : Os) (args : Array Value) : laidMetH Tryz.prog laidL (((World.laidAll Tryz.prog os laidL).forCall (fun _ _ => 0) ⟨#[], args, []⟩).memory) := by
  rw [MakeChecks.laidMetH_plain _ _ _ (by kernel_rfl)]
  exact laidMet_laidAll _ (by kernel_rfl) (by kernel_rfl)
theorem arg24 : ArgOk Tryz.prog X0 24 t23 := .inl ⟨by kernel_rfl, by kernel_rfl, by kernel_rfl, by kernel_rfl, of_decide_eq_true (by kernel_rfl)⟩
theorem arg2 : ArgOk Tryz.prog X0 2 t2 := .inr ⟨.i64, rfl, u3, by kernel_rfl, of_decide_eq_true (by kernel_rfl)⟩
theorem arg33 : ArgOk Tryz.prog X0 33 t33 := .inl ⟨by kernel_rfl, by kernel_rfl, by kernel_rfl, by kernel_rfl, of_decide_eq_true (by kernel_rfl)⟩

set_option maxRecDepth 100000 in
theorem highest_lifted (os : Os) (started : os.Started) (H : Type) (enc : TypeId × Value → H) :
    ReturnsInHanded {} Tryz.checked os 4 .any (fun w args => (Rows.setupHighestSpec.pre enc Tryz.prog Tryz.f4 [] false w args ∧ laidMetH Tryz.prog laidL w) ∧ sizedMet enc Tryz.prog Tryz.f4 (OpenSpec.ofChange Rows.setupHighestSpec) false w args)
      (Rows.setupHighestSpec.post enc Tryz.prog Tryz.f4 false true false false) := by
  refine returnsInHanded_of_change_and (C := Tryz.checked) (X := fun w _ => laidMetH Tryz.prog laidL w) (fun _ _ _ hh h => h.of_heap hh) own started (by kernel_rfl) Tryz.func4
    (ChangeSpec.witness_shaped (enc := enc) (C := Tryz.checked) (os := os) (X := fun w _ => laidMetH Tryz.prog laidL w) false (World.laidAll Tryz.prog os laidL) #[.agg #[.int .i64 0, .int .i64 0, .int .i64 0, .int .i64 0, .int .i64 0, .int .i64 0, .slice none 0 0, .int .i64 0], .agg #[.int .i64 0, .int .i64 0, .int .i64 0, .int .i64 0], .int .i64 0] 8 (World.laidAll_os _ _ _)
      (World.shaped_of_ZipB (by kernel_rfl) (by kernel_rfl)) (by kernel_rfl) (by kernel_rfl) (by kernel_rfl) (laidW os _)) ?_
  intro W base args ds gs before hval hW _ _ hL _
  exact law3 (H := H) (enc := enc) (X := X0) hX laidOut (spec := Rows.setupHighestSpec) rfl (fun _ _ _ => rfl) Tryz.params4 (tb := 4) (by kernel_rfl) u4 arg24 arg33 arg2
    (fun x0 x1 x2 o0 o1 o2 => c4 (truth4 x0 x1 x2 o0 o1 o2)) hval hW (glw hL)

theorem highest_row : Rows.SetupHighestSaid :=
  OpenClaim.holds_of_wide 4 Tryz.f4 rfl rfl rfl rfl rfl rfl rfl ⟨rfl, rfl, rfl, rfl, rfl⟩ rfl rfl rfl rfl rfl (by kernel_rfl) Tryz.func4 (by kernel_rfl)
    (of_decide_eq_true (by kernel_rfl)) (by unfold Func.isWrapper; first | (rw [if_pos (by decide +kernel)]; kernel_rfl) | (rw [if_neg (by decide +kernel)]; exact ⟨rfl, rfl⟩))
    (fun os started H enc _ => highest_lifted os started H enc)

theorem highest_holds : Rows.SetupHighestCardSaid :=
  Claim7.holds_tied_plain_at .later [] [.data, .data, .data, .data, .sentinel, .sentinel, .pinned] true (true, "c695d6ec99e4cf8f3283b7b4ab221d50451edd311a0cd29591aab79d5afb3e45") true
    highest_row (fun _ h => by cases h) (by kernel_rfl) (fun _ h => by cases h) setupHighest_row_tie rfl ⟨rfl, rfl⟩ (by kernel_rfl) rfl
    (fun f fn hf hfn => by
      obtain rfl : f = 4 := Option.some.inj ((show Tryz.prog.funcNamed Rows.setupHighestRow.func = some 4 by kernel_rfl).symm.trans hf) |>.symm
      obtain rfl : fn = Tryz.f4 := (Option.some.inj (Tryz.func4.symm.trans hfn)).symm
      exact ⟨by kernel_rfl, fun j t ht => by
        rw [Tryz.params4] at ht
        have hm : t ∈ [24, 33, 2] := by simpa using Array.mem_of_getElem? ht
        have hall : ([24, 33, 2].all fun u => !Tryz.prog.wantsStandIn u) = true := by kernel_rfl
        exact (show Tryz.prog.wantsStandIn t = false by simpa using List.all_eq_true.1 hall t hm)⟩)
    (by kernel_rfl)

end Go.Proofs.YtnjgokpdlolapaaGreatDoor
