/- Which functions have a body of their own. No condition. -/
import Derived.Test.YtlehonipilpfdaaSy1
import Derived.Test.YtlehonipilpfdaaSy2
import Derived.Test.YtlehonipilpfdaaChecked
import Derived.KernelRfl
namespace Go.Proofs.Ytlehonipilpfdaa
open Go Go.Sy
theorem _root_.Go.Proofs.Try.mix : Try.prog.follows .mixedOrders = true := by kernel_rfl
theorem own17 : Own Try.prog 17 := ⟨_, Try.func17, by decide +kernel, by rfl⟩
theorem own21 : Own Try.prog 21 := ⟨_, Try.func21, by decide +kernel, by rfl⟩
theorem own22 : Own Try.prog 22 := ⟨_, Try.func22, by decide +kernel, by rfl⟩
theorem own23 : Own Try.prog 23 := ⟨_, Try.func23, by decide +kernel, by rfl⟩
theorem own25 : Own Try.prog 25 := ⟨_, Try.func25, by decide +kernel, by rfl⟩
theorem own28 : Own Try.prog 28 := ⟨_, Try.func28, by decide +kernel, by rfl⟩
theorem own29 : Own Try.prog 29 := ⟨_, Try.func29, by decide +kernel, by rfl⟩
theorem own53 : Own Try.prog 53 := ⟨_, Try.func53, by decide +kernel, by rfl⟩
theorem own55 : Own Try.prog 55 := ⟨_, Try.func55, by decide +kernel, by rfl⟩
theorem own59 : Own Try.prog 59 := ⟨_, Try.func59, by decide +kernel, by rfl⟩
theorem own60 : Own Try.prog 60 := ⟨_, Try.func60, by decide +kernel, by rfl⟩
theorem own61 : Own Try.prog 61 := ⟨_, Try.func61, by decide +kernel, by rfl⟩
theorem own62 : Own Try.prog 62 := ⟨_, Try.func62, by decide +kernel, by rfl⟩
theorem own64 : Own Try.prog 64 := ⟨_, Try.func64, by decide +kernel, by rfl⟩
theorem own83 : Own Try.prog 83 := ⟨_, Try.func83, by decide +kernel, by rfl⟩
theorem own84 : Own Try.prog 84 := ⟨_, Try.func84, by decide +kernel, by rfl⟩
theorem own85 : Own Try.prog 85 := ⟨_, Try.func85, by decide +kernel, by rfl⟩
theorem own86 : Own Try.prog 86 := ⟨_, Try.func86, by decide +kernel, by rfl⟩
theorem own87 : Own Try.prog 87 := ⟨_, Try.func87, by decide +kernel, by rfl⟩
theorem own88 : Own Try.prog 88 := ⟨_, Try.func88, by decide +kernel, by rfl⟩
theorem own89 : Own Try.prog 89 := ⟨_, Try.func89, by decide +kernel, by rfl⟩
theorem own103 : Own Try.prog 103 := ⟨_, Try.func103, by decide +kernel, by rfl⟩
theorem own106 : Own Try.prog 106 := ⟨_, Try.func106, by decide +kernel, by rfl⟩
end Go.Proofs.Ytlehonipilpfdaa
