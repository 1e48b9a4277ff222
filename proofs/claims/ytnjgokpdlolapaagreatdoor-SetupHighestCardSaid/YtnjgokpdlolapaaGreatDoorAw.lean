/- awake of the law hands back true, and strings.Repeat by its contract; no conditions. -/
import Derived.Shelf.Strings.Repeat
import Derived.Test.YtnjgokpdlolapaaGreatDoorProg
import Derived.Test.YtnjgokpdlolapaaGreatDoorGb
import Derived.Test.YtnjgokpdlolapaaGreatDoorSwd
import Derived.KernelRfl
/-
  DERIVED: THE SHELF's CONTRACTS AT THIS DUMP, IN PLAIN WORDS (tools/lay-plain.mjs out of 'TryzRep.lean', which tools/lay-shelf.mjs wrote): THE SAME DECLARATIONS UNDER THE SAME NAMES: 'import', 'namespace', 'open', 'def', 'theorem' AND NOTHING ELSE: no command of the shelf's: FOR A HAND-IN. Each laying: the table of numbers ('.._ren') and one theorem, a field a fact of the dump's own or the kernel's comparison; each contract: ONE APPLICATION.
-/
namespace Go.Proofs
open Go.Shelf
def Tryz.lays105_ren : Go.Shelf.Ren := ⟨fun | 105 => 58 | 212 => 91 | 99 => 92 | 165 => 93 | 166 => 22 | 170 => 94 | 169 => 24 | 263 => 138 | 264 => 139 | 206 => 140 | 240 => 38 | 241 => 141 | 276 => 60 | 277 => 175 | n => n, fun | 9 => 9 | 3 => 3 | 4 => 4 | 20 => 20 | 0 => 0 | 46 => 133 | 109 => 134 | 5 => 5 | 72 => 50 | 76 => 53 | 51 => 158 | 146 => 168 | 53 => 107 | 148 => 170 | 70 => 47 | 37 => 48 | 75 => 52 | 127 => 83 | 164 => 105 | 80 => 58 | n => n, fun | n => n⟩
theorem Tryz.lays105 : Go.Proofs.Lays.n105 Tryz.prog Tryz.lays105_ren := {
  mixed := by kernel_rfl
  f99 := Tryz.func92.trans (congrArg some (by kernel_rfl))
  f105 := Tryz.func58.trans (congrArg some (by kernel_rfl))
  f165 := Tryz.func93.trans (congrArg some (by kernel_rfl))
  f166 := Tryz.func22.trans (congrArg some (by kernel_rfl))
  f169 := Tryz.func24.trans (congrArg some (by kernel_rfl))
  f170 := Tryz.func94.trans (congrArg some (by kernel_rfl))
  f206 := Tryz.func140.trans (congrArg some (by kernel_rfl))
  f212 := Tryz.func91.trans (congrArg some (by kernel_rfl))
  f240 := Tryz.func38.trans (congrArg some (by kernel_rfl))
  f241 := Tryz.func141.trans (congrArg some (by kernel_rfl))
  f263 := Tryz.func138.trans (congrArg some (by kernel_rfl))
  f264 := Tryz.func139.trans (congrArg some (by kernel_rfl))
  f276 := Tryz.func60.trans (congrArg some (by kernel_rfl))
  f277 := Tryz.func175.trans (congrArg some (by kernel_rfl))
  t0 := Tryz.underlying0
  a0 := Tryz.isAgg0
  z0 := Tryz.sizeOf0
  v0 := Tryz.zeroValue0
  t3 := Tryz.underlying3
  a3 := Tryz.isAgg3
  z3 := Tryz.sizeOf3
  v3 := Tryz.zeroValue3
  t4 := Tryz.underlying4
  a4 := Tryz.isAgg4
  z4 := Tryz.sizeOf4
  v4 := Tryz.zeroValue4
  t5 := Tryz.underlying5
  a5 := Tryz.isAgg5
  z5 := Tryz.sizeOf5
  v5 := Tryz.zeroValue5
  t9 := Tryz.underlying9
  a9 := Tryz.isAgg9
  z9 := Tryz.sizeOf9
  v9 := Tryz.zeroValue9
  t20 := Tryz.underlying20
  a20 := Tryz.isAgg20
  z20 := Tryz.sizeOf20
  v20 := Tryz.zeroValue20
  t37 := Tryz.underlying48
  a37 := Tryz.isAgg48
  z37 := Tryz.sizeOf48
  v37 := Tryz.zeroValue48
  t46 := Tryz.underlying133
  a46 := Tryz.isAgg133
  z46 := Tryz.sizeOf133
  v46 := Tryz.zeroValue133
  t51 := Tryz.underlying158
  a51 := Tryz.isAgg158
  z51 := Tryz.sizeOf158
  v51 := Tryz.zeroValue158
  t53 := Tryz.underlying107
  a53 := Tryz.isAgg107
  z53 := Tryz.sizeOf107
  v53 := Tryz.zeroValue107
  t70 := Tryz.underlying47
  a70 := Tryz.isAgg47
  z70 := Tryz.sizeOf47
  v70 := Tryz.zeroValue47
  t72 := Tryz.underlying50
  a72 := Tryz.isAgg50
  z72 := Tryz.sizeOf50
  v72 := Tryz.zeroValue50
  t75 := Tryz.underlying52
  a75 := Tryz.isAgg52
  z75 := Tryz.sizeOf52
  v75 := Tryz.zeroValue52
  t76 := Tryz.underlying53
  a76 := Tryz.isAgg53
  z76 := Tryz.sizeOf53
  v76 := Tryz.zeroValue53
  t109 := Tryz.underlying134
  a109 := Tryz.isAgg134
  z109 := Tryz.sizeOf134
  v109 := Tryz.zeroValue134
  t127 := Tryz.underlying83
  a127 := Tryz.isAgg83
  z127 := Tryz.sizeOf83
  v127 := Tryz.zeroValue83
  t146 := Tryz.underlying168
  a146 := Tryz.isAgg168
  z146 := Tryz.sizeOf168
  v146 := Tryz.zeroValue168
  t148 := Tryz.underlying170
  a148 := Tryz.isAgg170
  z148 := Tryz.sizeOf170
  v148 := Tryz.zeroValue170
  t164 := Tryz.underlying105
  a164 := Tryz.isAgg105
  z164 := Tryz.sizeOf105
  v164 := Tryz.zeroValue105 }
theorem Tryz.Builder_Extra_105 : Builder.Extra Tryz.prog Tryz.lays105_ren := {
  sizeBuilder := by kernel_rfl
  liesBuilder := by kernel_rfl
  t5 := Tryz.underlying5
  a5 := Tryz.isAgg5
  z5 := Tryz.sizeOf5
  v5 := Tryz.zeroValue5
  infoByte := by kernel_rfl
  cellsByte := by kernel_rfl
  sizeByte := by kernel_rfl
  neB5 := by decide }
open Go.RowKit Go.Lib in
/-- **strings.Repeat: count ≥ 0, the result within one allocation: count copies of s.** (LAID: no walk: one application.) -/
theorem Tryz.strings_Repeat (s : ByteArray) (c : Nat) (w : World) (hc : c ≤ 9223372036854775807) (hlen : s.size * c ≤ 140737488355328) :
    Calls Tryz.prog 58 #[.string s, .int .i64 c] w fun e w' => e = .returned (.string ⟨(Lib.repeatL s.data.toList c).toArray⟩) ∧ Below w.heap.size w w' := Any.strings_Repeat Tryz.lays105 Tryz.Builder_Extra_105 s c w hc hlen
end Go.Proofs

namespace Go.Sw
open Go
set_option linter.unusedVariables false
/-- strings.Repeat -/
def repF (s : ByteArray) (c : Int) : Option ByteArray :=
  if 0 ≤ c ∧ c ≤ 140737488355328 ∧ s.size * c.toNat ≤ 140737488355328 then some ⟨(Lib.repeatL s.data.toList c.toNat).toArray⟩ else none
theorem c58 {s : ByteArray} {c : Int} {r : ByteArray} (h : repF s c = some r) : CallPure Pg 58 [.d .str s, .d t2 c] (.d .str r) := by
  unfold repF at h
  split at h
  · rename_i hc
    obtain ⟨h0, h1, h2⟩ := hc
    obtain rfl := Option.some.inj h
    intro F w vals hF hG hargs
    match vals, hargs with
    | [v1, v2], ⟨a1, a2, _⟩ =>
      obtain ⟨rfl, _⟩ := repV_str a1
      obtain ⟨rfl, _⟩ := repV_int a2
      have hN : ((c.toNat : Nat) : Int) = c := by omega
      have := Go.Proofs.Tryz.strings_Repeat s c.toNat w (by omega) h2
      rw [hN] at this
      refine Calls.mono this ?_
      rintro e w' ⟨rfl, hb⟩
      refine ⟨_, rfl, repV_str_mk ?_, ⟨hb.os, hb.tape, hb.output, hb.size, fun b hb' _ => hb.block b hb', fun id B n h => (by cases h)⟩⟩
      show (((Lib.repeatL s.data.toList c.toNat).toArray.size : Nat) : Int) ≤ 9223372036854775807
      rw [List.size_toArray, Lib.repeatL_length]
      have e : s.data.toList.length = s.size := by rw [Lib.size_eq]
      rw [e]
      have : c.toNat * s.size ≤ 140737488355328 := by rw [Nat.mul_comm]; exact h2
      omega
  · cases h
def knA (g : Nat) (vs : List V) : Option V := match g with
  | 10 => k1 t23 F10 (.d t2) vs
  | 13 => k4 t23 t31 t31 t2 F13 (fun r => .tup (.vcons (.d t2 r.1) (.vcons (.d t4 r.2) .vnil))) vs
  | 18 => k0 F18 (.d t23) vs
  | 20 => k2 t23 t23 F20 (.d t4) vs
  | 21 => k1 t23 F21 (.d t2) vs
  | 58 => k2 .str t2 repF (.d .str) vs
  | 82 => k1 t5 F82 (.d t4) vs
  | 85 => k1 t5 F85 (.d t4) vs
  | 106 => k2 t4 t66 F106 (.d t67) vs
  | 135 => k2 t67 t67 F135 (fun r => .tup (.vcons (.d t69 r.1) (.vcons (.d t2 r.2) .vnil))) vs
  | 136 => k1 t2 F136 (.d t67) vs
  | _ => none
theorem knA_ok : ∀ g vs r, knA g vs = some r → CallPure Pg g vs r := by
  intro g vs r h
  unfold knA at h
  split at h
  · exact k1_ok (fun _ _ h => c10 h) h
  · exact k4_ok (fun _ _ _ _ _ h => c13 h) h
  · exact k0_ok (fun _ h => c18 h) h
  · exact k2_ok (fun _ _ _ h => c20 h) h
  · exact k1_ok (fun _ _ h => c21 h) h
  · exact k2_ok (fun _ _ _ h => c58 h) h
  · exact k1_ok (fun _ _ h => c82 h) h
  · exact k1_ok (fun _ _ h => c85 h) h
  · exact k2_ok (fun _ _ _ h => c106 h) h
  · exact k2_ok (fun _ _ _ h => c135 h) h
  · exact k1_ok (fun _ _ h => c136 h) h
  · cases h
def bnA (g : Nat) : Bool := [150, 195, 196].contains g
noncomputable def E0 : Env := ⟨Pg, X0, knA, bnA⟩
theorem hX0 : TyOk E0.P E0.X := hX
theorem kn0 : KnOk E0 := knA_ok
end Go.Sw

namespace Go.Sw
open Go
set_option linter.unusedVariables false
theorem e88_0 : ((exFn E0 60 false 88 [.d .str (⟨#[48]⟩ : ByteArray)] [] 300).map fun q => (q.1, q.2.2.2)) = some ((.tup (.vcons (.d t69 ((false, []), (false, [(1 : Int)]))) (.vcons (.d t2 (0 : Int)) .vnil))), false) := by kernel_rfl
theorem e88_1 : ((exFn E0 60 false 88 [.d .str (⟨#[49, 48, 48]⟩ : ByteArray)] [] 300).map fun q => (q.1, q.2.2.2)) = some ((.tup (.vcons (.d t69 ((false, [(100 : Int)]), (false, [(1 : Int)]))) (.vcons (.d t2 (0 : Int)) .vnil))), false) := by kernel_rfl
theorem e88_2 : ((exFn E0 60 false 88 [.d .str (⟨#[54, 48]⟩ : ByteArray)] [] 300).map fun q => (q.1, q.2.2.2)) = some ((.tup (.vcons (.d t69 ((false, [(60 : Int)]), (false, [(1 : Int)]))) (.vcons (.d t2 (0 : Int)) .vnil))), false) := by kernel_rfl
theorem e88_3 : ((exFn E0 60 false 88 [.d .str (⟨#[50, 48]⟩ : ByteArray)] [] 300).map fun q => (q.1, q.2.2.2)) = some ((.tup (.vcons (.d t69 ((false, [(20 : Int)]), (false, [(1 : Int)]))) (.vcons (.d t2 (0 : Int)) .vnil))), false) := by kernel_rfl
theorem e88_4 : ((exFn E0 60 false 88 [.d .str (⟨#[53]⟩ : ByteArray)] [] 300).map fun q => (q.1, q.2.2.2)) = some ((.tup (.vcons (.d t69 ((false, [(5 : Int)]), (false, [(1 : Int)]))) (.vcons (.d t2 (0 : Int)) .vnil))), false) := by kernel_rfl
theorem e88_5 : ((exFn E0 60 false 88 [.d .str (⟨#[49, 53]⟩ : ByteArray)] [] 300).map fun q => (q.1, q.2.2.2)) = some ((.tup (.vcons (.d t69 ((false, [(15 : Int)]), (false, [(1 : Int)]))) (.vcons (.d t2 (0 : Int)) .vnil))), false) := by kernel_rfl
theorem e88_6 : ((exFn E0 60 false 88 [.d .str (⟨#[49, 48]⟩ : ByteArray)] [] 300).map fun q => (q.1, q.2.2.2)) = some ((.tup (.vcons (.d t69 ((false, [(10 : Int)]), (false, [(1 : Int)]))) (.vcons (.d t2 (0 : Int)) .vnil))), false) := by kernel_rfl
theorem e88_7 : ((exFn E0 60 false 88 [.d .str (⟨#[56, 46, 53]⟩ : ByteArray)] [] 300).map fun q => (q.1, q.2.2.2)) = some ((.tup (.vcons (.d t69 ((false, [(17 : Int)]), (false, [(2 : Int)]))) (.vcons (.d t2 (0 : Int)) .vnil))), false) := by kernel_rfl
def tab88 : List (ByteArray × V) := [((⟨#[48]⟩ : ByteArray), (.tup (.vcons (.d t69 ((false, []), (false, [(1 : Int)]))) (.vcons (.d t2 (0 : Int)) .vnil)))), ((⟨#[49, 48, 48]⟩ : ByteArray), (.tup (.vcons (.d t69 ((false, [(100 : Int)]), (false, [(1 : Int)]))) (.vcons (.d t2 (0 : Int)) .vnil)))), ((⟨#[54, 48]⟩ : ByteArray), (.tup (.vcons (.d t69 ((false, [(60 : Int)]), (false, [(1 : Int)]))) (.vcons (.d t2 (0 : Int)) .vnil)))), ((⟨#[50, 48]⟩ : ByteArray), (.tup (.vcons (.d t69 ((false, [(20 : Int)]), (false, [(1 : Int)]))) (.vcons (.d t2 (0 : Int)) .vnil)))), ((⟨#[53]⟩ : ByteArray), (.tup (.vcons (.d t69 ((false, [(5 : Int)]), (false, [(1 : Int)]))) (.vcons (.d t2 (0 : Int)) .vnil)))), ((⟨#[49, 53]⟩ : ByteArray), (.tup (.vcons (.d t69 ((false, [(15 : Int)]), (false, [(1 : Int)]))) (.vcons (.d t2 (0 : Int)) .vnil)))), ((⟨#[49, 48]⟩ : ByteArray), (.tup (.vcons (.d t69 ((false, [(10 : Int)]), (false, [(1 : Int)]))) (.vcons (.d t2 (0 : Int)) .vnil)))), ((⟨#[56, 46, 53]⟩ : ByteArray), (.tup (.vcons (.d t69 ((false, [(17 : Int)]), (false, [(2 : Int)]))) (.vcons (.d t2 (0 : Int)) .vnil))))]
theorem tab88_ok : TabOk Pg 88 tab88 := ⟨ex_pure hX0 kn0 rfl e88_0, ex_pure hX0 kn0 rfl e88_1, ex_pure hX0 kn0 rfl e88_2, ex_pure hX0 kn0 rfl e88_3, ex_pure hX0 kn0 rfl e88_4, ex_pure hX0 kn0 rfl e88_5, ex_pure hX0 kn0 rfl e88_6, ex_pure hX0 kn0 rfl e88_7, trivial⟩
theorem e59_0 : ((exFn E0 60 false 59 [.d .str (⟨#[48]⟩ : ByteArray)] [] 300).map fun q => (q.1, q.2.2.2)) = some ((.tup (.vcons (.d t2 (0 : Int)) (.vcons (.d t2 (0 : Int)) .vnil))), false) := by kernel_rfl
theorem e59_1 : ((exFn E0 60 false 59 [.d .str (⟨#[49, 48, 48]⟩ : ByteArray)] [] 300).map fun q => (q.1, q.2.2.2)) = some ((.tup (.vcons (.d t2 (100000 : Int)) (.vcons (.d t2 (0 : Int)) .vnil))), false) := by kernel_rfl
theorem e59_2 : ((exFn E0 60 false 59 [.d .str (⟨#[54, 48]⟩ : ByteArray)] [] 300).map fun q => (q.1, q.2.2.2)) = some ((.tup (.vcons (.d t2 (60000 : Int)) (.vcons (.d t2 (0 : Int)) .vnil))), false) := by kernel_rfl
theorem e59_3 : ((exFn E0 60 false 59 [.d .str (⟨#[50, 48]⟩ : ByteArray)] [] 300).map fun q => (q.1, q.2.2.2)) = some ((.tup (.vcons (.d t2 (20000 : Int)) (.vcons (.d t2 (0 : Int)) .vnil))), false) := by kernel_rfl
theorem e59_4 : ((exFn E0 60 false 59 [.d .str (⟨#[53]⟩ : ByteArray)] [] 300).map fun q => (q.1, q.2.2.2)) = some ((.tup (.vcons (.d t2 (5000 : Int)) (.vcons (.d t2 (0 : Int)) .vnil))), false) := by kernel_rfl
theorem e59_5 : ((exFn E0 60 false 59 [.d .str (⟨#[49, 53]⟩ : ByteArray)] [] 300).map fun q => (q.1, q.2.2.2)) = some ((.tup (.vcons (.d t2 (15000 : Int)) (.vcons (.d t2 (0 : Int)) .vnil))), false) := by kernel_rfl
theorem e59_6 : ((exFn E0 60 false 59 [.d .str (⟨#[49, 48]⟩ : ByteArray)] [] 300).map fun q => (q.1, q.2.2.2)) = some ((.tup (.vcons (.d t2 (10000 : Int)) (.vcons (.d t2 (0 : Int)) .vnil))), false) := by kernel_rfl
theorem e59_7 : ((exFn E0 60 false 59 [.d .str (⟨#[56, 46, 53]⟩ : ByteArray)] [] 300).map fun q => (q.1, q.2.2.2)) = some ((.tup (.vcons (.d t2 (8500 : Int)) (.vcons (.d t2 (0 : Int)) .vnil))), false) := by kernel_rfl
def tab59 : List (ByteArray × V) := [((⟨#[48]⟩ : ByteArray), (.tup (.vcons (.d t2 (0 : Int)) (.vcons (.d t2 (0 : Int)) .vnil)))), ((⟨#[49, 48, 48]⟩ : ByteArray), (.tup (.vcons (.d t2 (100000 : Int)) (.vcons (.d t2 (0 : Int)) .vnil)))), ((⟨#[54, 48]⟩ : ByteArray), (.tup (.vcons (.d t2 (60000 : Int)) (.vcons (.d t2 (0 : Int)) .vnil)))), ((⟨#[50, 48]⟩ : ByteArray), (.tup (.vcons (.d t2 (20000 : Int)) (.vcons (.d t2 (0 : Int)) .vnil)))), ((⟨#[53]⟩ : ByteArray), (.tup (.vcons (.d t2 (5000 : Int)) (.vcons (.d t2 (0 : Int)) .vnil)))), ((⟨#[49, 53]⟩ : ByteArray), (.tup (.vcons (.d t2 (15000 : Int)) (.vcons (.d t2 (0 : Int)) .vnil)))), ((⟨#[49, 48]⟩ : ByteArray), (.tup (.vcons (.d t2 (10000 : Int)) (.vcons (.d t2 (0 : Int)) .vnil)))), ((⟨#[56, 46, 53]⟩ : ByteArray), (.tup (.vcons (.d t2 (8500 : Int)) (.vcons (.d t2 (0 : Int)) .vnil))))]
theorem tab59_ok : TabOk Pg 59 tab59 := ⟨ex_pure hX0 kn0 rfl e59_0, ex_pure hX0 kn0 rfl e59_1, ex_pure hX0 kn0 rfl e59_2, ex_pure hX0 kn0 rfl e59_3, ex_pure hX0 kn0 rfl e59_4, ex_pure hX0 kn0 rfl e59_5, ex_pure hX0 kn0 rfl e59_6, ex_pure hX0 kn0 rfl e59_7, trivial⟩
def kn1 (g : Nat) (vs : List V) : Option V := match g with
  | 88 => kS tab88 vs
  | 59 => kS tab59 vs
  | g => knA g vs
theorem kn1_ok : ∀ g vs r, kn1 g vs = some r → CallPure Pg g vs r := by
  intro g vs r h
  unfold kn1 at h
  split at h
  · exact kS_ok tab88_ok h
  · exact kS_ok tab59_ok h
  · exact knA_ok _ _ _ h
noncomputable def E1 : Env := ⟨Pg, X0, kn1, bnA⟩
theorem hX1 : TyOk E1.P E1.X := hX
theorem kk1 : KnOk E1 := kn1_ok
end Go.Sw

namespace Go.Sw
open Go
set_option linter.unusedVariables false
theorem e56_0 : ((exFn E1 60 false 56 [.d .str (⟨#[115, 116, 111, 99, 107, 32, 48, 32, 48, 32, 49, 48, 48, 32, 54, 48, 32, 50, 48, 32, 53]⟩ : ByteArray)] [] 300).map fun q => (q.1, q.2.2.2)) = some ((.tup (.vcons (.d t77 [((1 : Int), ((0 : Int), (⟨#[115, 116, 111, 99, 107]⟩ : ByteArray))), ((2 : Int), ((6 : Int), (⟨#[48]⟩ : ByteArray))), ((2 : Int), ((8 : Int), (⟨#[48]⟩ : ByteArray))), ((2 : Int), ((10 : Int), (⟨#[49, 48, 48]⟩ : ByteArray))), ((2 : Int), ((14 : Int), (⟨#[54, 48]⟩ : ByteArray))), ((2 : Int), ((17 : Int), (⟨#[50, 48]⟩ : ByteArray))), ((2 : Int), ((20 : Int), (⟨#[53]⟩ : ByteArray)))]) (.vcons (.d t2 (0 : Int)) (.vcons (.d t2 (0 : Int)) .vnil)))), false) := by kernel_rfl
theorem e56_1 : ((exFn E1 60 false 56 [.d .str (⟨#[115, 97, 102, 101, 32, 49, 53]⟩ : ByteArray)] [] 300).map fun q => (q.1, q.2.2.2)) = some ((.tup (.vcons (.d t77 [((1 : Int), ((0 : Int), (⟨#[115, 97, 102, 101]⟩ : ByteArray))), ((2 : Int), ((5 : Int), (⟨#[49, 53]⟩ : ByteArray)))]) (.vcons (.d t2 (0 : Int)) (.vcons (.d t2 (0 : Int)) .vnil)))), false) := by kernel_rfl
theorem e56_2 : ((exFn E1 60 false 56 [.d .str (⟨#[99, 108, 97, 109, 112, 32, 48, 32, 48, 32, 49, 48, 32, 49, 48, 32, 56, 46, 53]⟩ : ByteArray)] [] 300).map fun q => (q.1, q.2.2.2)) = some ((.tup (.vcons (.d t77 [((1 : Int), ((0 : Int), (⟨#[99, 108, 97, 109, 112]⟩ : ByteArray))), ((2 : Int), ((6 : Int), (⟨#[48]⟩ : ByteArray))), ((2 : Int), ((8 : Int), (⟨#[48]⟩ : ByteArray))), ((2 : Int), ((10 : Int), (⟨#[49, 48]⟩ : ByteArray))), ((2 : Int), ((13 : Int), (⟨#[49, 48]⟩ : ByteArray))), ((2 : Int), ((16 : Int), (⟨#[56, 46, 53]⟩ : ByteArray)))]) (.vcons (.d t2 (0 : Int)) (.vcons (.d t2 (0 : Int)) .vnil)))), false) := by kernel_rfl
def tab56 : List (ByteArray × V) := [((⟨#[115, 116, 111, 99, 107, 32, 48, 32, 48, 32, 49, 48, 48, 32, 54, 48, 32, 50, 48, 32, 53]⟩ : ByteArray), (.tup (.vcons (.d t77 [((1 : Int), ((0 : Int), (⟨#[115, 116, 111, 99, 107]⟩ : ByteArray))), ((2 : Int), ((6 : Int), (⟨#[48]⟩ : ByteArray))), ((2 : Int), ((8 : Int), (⟨#[48]⟩ : ByteArray))), ((2 : Int), ((10 : Int), (⟨#[49, 48, 48]⟩ : ByteArray))), ((2 : Int), ((14 : Int), (⟨#[54, 48]⟩ : ByteArray))), ((2 : Int), ((17 : Int), (⟨#[50, 48]⟩ : ByteArray))), ((2 : Int), ((20 : Int), (⟨#[53]⟩ : ByteArray)))]) (.vcons (.d t2 (0 : Int)) (.vcons (.d t2 (0 : Int)) .vnil))))), ((⟨#[115, 97, 102, 101, 32, 49, 53]⟩ : ByteArray), (.tup (.vcons (.d t77 [((1 : Int), ((0 : Int), (⟨#[115, 97, 102, 101]⟩ : ByteArray))), ((2 : Int), ((5 : Int), (⟨#[49, 53]⟩ : ByteArray)))]) (.vcons (.d t2 (0 : Int)) (.vcons (.d t2 (0 : Int)) .vnil))))), ((⟨#[99, 108, 97, 109, 112, 32, 48, 32, 48, 32, 49, 48, 32, 49, 48, 32, 56, 46, 53]⟩ : ByteArray), (.tup (.vcons (.d t77 [((1 : Int), ((0 : Int), (⟨#[99, 108, 97, 109, 112]⟩ : ByteArray))), ((2 : Int), ((6 : Int), (⟨#[48]⟩ : ByteArray))), ((2 : Int), ((8 : Int), (⟨#[48]⟩ : ByteArray))), ((2 : Int), ((10 : Int), (⟨#[49, 48]⟩ : ByteArray))), ((2 : Int), ((13 : Int), (⟨#[49, 48]⟩ : ByteArray))), ((2 : Int), ((16 : Int), (⟨#[56, 46, 53]⟩ : ByteArray)))]) (.vcons (.d t2 (0 : Int)) (.vcons (.d t2 (0 : Int)) .vnil)))))]
theorem tab56_ok : TabOk Pg 56 tab56 := ⟨ex_pure hX1 kk1 rfl e56_0, ex_pure hX1 kk1 rfl e56_1, ex_pure hX1 kk1 rfl e56_2, trivial⟩
def kn2 (g : Nat) (vs : List V) : Option V := match g with
  | 56 => kS tab56 vs
  | g => kn1 g vs
theorem kn2_ok : ∀ g vs r, kn2 g vs = some r → CallPure Pg g vs r := by
  intro g vs r h
  unfold kn2 at h
  split at h
  · exact kS_ok tab56_ok h
  · exact kn1_ok _ _ _ h
noncomputable def E2 : Env := ⟨Pg, X0, kn2, bnA⟩
theorem hX2 : TyOk E2.P E2.X := hX
theorem kk2 : KnOk E2 := kn2_ok
end Go.Sw
