/-
  No cell of these rows narrows 'for every input' (looked for: loops, veiled, ifaces, maps, wideKeys, modest, calm, conditions, laid).
  DERIVED. THE GIVEN ROWS OF THIS SEAT. 2 by the template 'for every input the law returns true; each argument reads behind the call as it read before'; 0 by the template 'total and deterministic' (their statements: YtcmbahhinnojaaaTotals.lean).
  GIVEN WITH THE SEED: the statements are not yours to turn. If you find one false, say at which input.
  Laid BY PROGRAM, IN A SANDBOX (cutbox-rows.mjs): the forced cells as the released guide's own fill.sh prints them over the translation e01fca03be14a857… (all of the seat's roots in one cut). By AI agents, Wed Nov 11 2026. No macro, syntax, notation, axiom, sorry.
-/
import Derived.Test.YtcmbahhinnojaaaChecked
import GoSem.Claim
import GoSem.ClaimJoined
import GoSem.ClaimMapViews
import Derived.JoinedTies
import Derived.KernelRfl
namespace Go.Proofs.Ytcmbahhinnojaaa
/- THE CELL 'sum', in the pinned program and in every row, IS THE sha256 OF THE DUMP (.gsa) THAT YtcmbahhinnojaaaProg.lean LOADS. Nothing in Lean hashes anything: it is a label: what it is worth is what the hold of that sum in a sandbox is worth. -/
noncomputable def Try.pinned : Pinned := { name := "ytcmbahhinnojaaa", sum := "e01fca03be14a857800953dd04df24d288cca3bfcc8e73af9675a75fe1b0540b", checked := Try.checked }
namespace Rows
def none {H : Type} : Left H := { results := [], args := [] }

/-- 'swarflaw37.LinkSafe': WHATEVER THE INPUT: true; the input reads as it did. -/
def linkSafeSpec : ChangeSpec := { name := "linkSafe", fn := fun _ => fun
  | [d1, d2, d3] => { results := [.lit (.bool true)], args := [d1, d2, d3] }
  | _ => none }
def linkSafeRow : OpenClaim := { program := "ytcmbahhinnojaaa", sum := "e01fca03be14a857800953dd04df24d288cca3bfcc8e73af9675a75fe1b0540b", func := "swarf/swarflaw37.LinkSafe", spec := "linkSafe", unfollowed := true, recurses := true, apart := false }
def LinkSafeSaid : Prop := linkSafeRow.holds Try.pinned (OpenSpec.ofChange linkSafeSpec)

/-- ITS FALSE NEIGHBOUR: 'it returns false'. Refute it at one input. -/
def linkSafeWrong : ChangeSpec := { name := "linkSafe", fn := fun _ => fun
  | [d1, d2, d3] => { results := [.lit (.bool false)], args := [d1, d2, d3] }
  | _ => none }
def LinkSafeWrongFalsely : Prop := linkSafeRow.holds Try.pinned (OpenSpec.ofChange linkSafeWrong)

/-- 'swarflaw37.LinkDetour': WHATEVER THE INPUT: true; the input reads as it did. -/
def linkDetourSpec : ChangeSpec := { name := "linkDetour", fn := fun _ => fun
  | [d1, d2, d3] => { results := [.lit (.bool true)], args := [d1, d2, d3] }
  | _ => none }
def linkDetourRow : OpenClaim := { program := "ytcmbahhinnojaaa", sum := "e01fca03be14a857800953dd04df24d288cca3bfcc8e73af9675a75fe1b0540b", func := "swarf/swarflaw37.LinkDetour", spec := "linkDetour", unfollowed := true, recurses := true, apart := false }
def LinkDetourSaid : Prop := linkDetourRow.holds Try.pinned (OpenSpec.ofChange linkDetourSpec)

/-- ITS FALSE NEIGHBOUR: 'it returns false'. Refute it at one input. -/
def linkDetourWrong : ChangeSpec := { name := "linkDetour", fn := fun _ => fun
  | [d1, d2, d3] => { results := [.lit (.bool false)], args := [d1, d2, d3] }
  | _ => none }
def LinkDetourWrongFalsely : Prop := linkDetourRow.holds Try.pinned (OpenSpec.ofChange linkDetourWrong)

/- THE SECOND FORM. 'bulk': how many values and letters a reading holds, each counted each time it is reached (what is shared counts as often as it is met; a slice's spare places count too). A statement '..UptoSaid' is the law's where the arguments, and the package variables that the reading takes, are together of bulk at most 1048576: NARROWER than '..Said'. Prove '..Said' where nothing that the law and all that it calls make is longer than what came in: it says more and counts as full. Else prove '..UptoSaid'. A law counts once. -/
mutual
def uptoBulk {H : Type} : DataW H → Nat
  | .lit (.string bytes) => bytes.length + 1
  | .lit _ => 1
  | .nil => 1
  | .ptr d => uptoBulk d + 1
  | .slice elems spare => uptoBulkAll elems + uptoBulkAll spare + 1
  | .agg parts => uptoBulkAll parts + 1
  | .iface _ d => uptoBulk d + 1
  | .map entries => uptoBulkEntries entries + 1
  | .held _ => 1
def uptoBulkAll {H : Type} : List (DataW H) → Nat
  | [] => 0
  | d :: r => uptoBulk d + uptoBulkAll r
def uptoBulkEntries {H : Type} : List (Lit × DataW H) → Nat
  | [] => 0
  | x :: r => uptoBulkEntry x + uptoBulkEntries r
def uptoBulkEntry {H : Type} : Lit × DataW H → Nat
  | (.string bytes, d) => bytes.length + uptoBulk d + 1
  | (_, d) => uptoBulk d + 1
 end
def uptoSmall : (H : Type) → List (DataW H) → Bool := fun _ ds => decide (uptoBulkAll ds ≤ 1048576)
def OpenSpec.upto (s : _root_.Go.ChangeSpec) : _root_.Go.OpenSpec := { _root_.Go.OpenSpec.ofChange s with cond := some uptoSmall }

/-- 'swarflaw37.LinkSafe', WHERE WHAT IT READS IS OF BULK AT MOST 1048576: true; the input reads as it did. -/
def linkSafeUptoRow : OpenClaim := { program := "ytcmbahhinnojaaa", sum := "e01fca03be14a857800953dd04df24d288cca3bfcc8e73af9675a75fe1b0540b", func := "swarf/swarflaw37.LinkSafe", spec := "linkSafe", unfollowed := true, recurses := true, apart := false, narrowed := true }
def LinkSafeUptoSaid : Prop := linkSafeUptoRow.holds Try.pinned (OpenSpec.upto linkSafeSpec)

/-- 'swarflaw37.LinkDetour', WHERE WHAT IT READS IS OF BULK AT MOST 1048576: true; the input reads as it did. -/
def linkDetourUptoRow : OpenClaim := { program := "ytcmbahhinnojaaa", sum := "e01fca03be14a857800953dd04df24d288cca3bfcc8e73af9675a75fe1b0540b", func := "swarf/swarflaw37.LinkDetour", spec := "linkDetour", unfollowed := true, recurses := true, apart := false, narrowed := true }
def LinkDetourUptoSaid : Prop := linkDetourUptoRow.holds Try.pinned (OpenSpec.upto linkDetourSpec)

end Rows
end Go.Proofs.Ytcmbahhinnojaaa
