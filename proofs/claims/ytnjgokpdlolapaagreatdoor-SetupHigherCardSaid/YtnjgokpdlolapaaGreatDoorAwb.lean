/- awake of the law hands back true; no conditions. -/
import Derived.Test.YtnjgokpdlolapaaGreatDoorAw
namespace Go.Sw
open Go
set_option linter.unusedVariables false
theorem e19_0 : ((exFn E2 60 false 19 [.d .str (⟨#[115, 116, 111, 99, 107, 32, 48, 32, 48, 32, 49, 48, 48, 32, 54, 48, 32, 50, 48, 32, 53, 10, 115, 97, 102, 101, 32, 49, 53, 10, 99, 108, 97, 109, 112, 32, 48, 32, 48, 32, 49, 48, 32, 49, 48, 32, 56, 46, 53, 10]⟩ : ByteArray)] [] 300).map fun q => (q.1, q.2.2.2)) = some ((.tup (.vcons (.d t23 ((0 : Int), ((0 : Int), ((100000 : Int), ((60000 : Int), ((20000 : Int), ((5000 : Int), ([((0 : Int), ((0 : Int), ((10000 : Int), ((10000 : Int), (8500 : Int)))))], (15000 : Int))))))))) (.vcons (.d t2 (0 : Int)) (.vcons (.d t2 (0 : Int)) .vnil)))), false) := by kernel_rfl
def tab19 : List (ByteArray × V) := [((⟨#[115, 116, 111, 99, 107, 32, 48, 32, 48, 32, 49, 48, 48, 32, 54, 48, 32, 50, 48, 32, 53, 10, 115, 97, 102, 101, 32, 49, 53, 10, 99, 108, 97, 109, 112, 32, 48, 32, 48, 32, 49, 48, 32, 49, 48, 32, 56, 46, 53, 10]⟩ : ByteArray), (.tup (.vcons (.d t23 ((0 : Int), ((0 : Int), ((100000 : Int), ((60000 : Int), ((20000 : Int), ((5000 : Int), ([((0 : Int), ((0 : Int), ((10000 : Int), ((10000 : Int), (8500 : Int)))))], (15000 : Int))))))))) (.vcons (.d t2 (0 : Int)) (.vcons (.d t2 (0 : Int)) .vnil)))))]
theorem tab19_ok : TabOk Pg 19 tab19 := ⟨ex_pure hX2 kk2 rfl e19_0, trivial⟩
def kn3 (g : Nat) (vs : List V) : Option V := match g with
  | 19 => kS tab19 vs
  | g => kn2 g vs
theorem kn3_ok : ∀ g vs r, kn3 g vs = some r → CallPure Pg g vs r := by
  intro g vs r h
  unfold kn3 at h
  split at h
  · exact kS_ok tab19_ok h
  · exact kn2_ok _ _ _ h
noncomputable def E3 : Env := ⟨Pg, X0, kn3, bnA⟩
theorem hX3 : TyOk E3.P E3.X := hX
theorem kk3 : KnOk E3 := kn3_ok
end Go.Sw

namespace Go.Sw
open Go
set_option linter.unusedVariables false
theorem e7 : ((exFn E3 60 false 7 [] [] 300).map fun q => (q.1, q.2.2.2)) = some (.d .bool true, false) := by kernel_rfl
theorem awake_pure : CallPure Pg 7 [] (.d .bool true) := ex_pure hX3 kk3 rfl e7
end Go.Sw
