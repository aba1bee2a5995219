/- Which functions have a body of their own. No condition. -/
import Derived.Test.YtgndmmbbhfmegaaSyH
import Derived.Test.YtgndmmbbhfmegaaSyI
import Derived.Test.YtgndmmbbhfmegaaChecked
import Derived.KernelRfl
namespace Go.Proofs.Ytgndmmbbhfmegaa
open Go Go.Sy
theorem _root_.Go.Proofs.Try.mix : Try.prog.follows .mixedOrders = true := by kernel_rfl
theorem own3 : Own Try.prog 3 := ⟨_, Try.func3, by decide +kernel, by rfl⟩
theorem own4 : Own Try.prog 4 := ⟨_, Try.func4, by decide +kernel, by rfl⟩
theorem own5 : Own Try.prog 5 := ⟨_, Try.func5, by decide +kernel, by rfl⟩
theorem own6 : Own Try.prog 6 := ⟨_, Try.func6, by decide +kernel, by rfl⟩
theorem own7 : Own Try.prog 7 := ⟨_, Try.func7, by decide +kernel, by rfl⟩
theorem own8 : Own Try.prog 8 := ⟨_, Try.func8, by decide +kernel, by rfl⟩
theorem own9 : Own Try.prog 9 := ⟨_, Try.func9, by decide +kernel, by rfl⟩
theorem own10 : Own Try.prog 10 := ⟨_, Try.func10, by decide +kernel, by rfl⟩
theorem own11 : Own Try.prog 11 := ⟨_, Try.func11, by decide +kernel, by rfl⟩
theorem own12 : Own Try.prog 12 := ⟨_, Try.func12, by decide +kernel, by rfl⟩
theorem own13 : Own Try.prog 13 := ⟨_, Try.func13, by decide +kernel, by rfl⟩
theorem own14 : Own Try.prog 14 := ⟨_, Try.func14, by decide +kernel, by rfl⟩
theorem own15 : Own Try.prog 15 := ⟨_, Try.func15, by decide +kernel, by rfl⟩
theorem own16 : Own Try.prog 16 := ⟨_, Try.func16, by decide +kernel, by rfl⟩
theorem own17 : Own Try.prog 17 := ⟨_, Try.func17, by decide +kernel, by rfl⟩
theorem own18 : Own Try.prog 18 := ⟨_, Try.func18, by decide +kernel, by rfl⟩
theorem own19 : Own Try.prog 19 := ⟨_, Try.func19, by decide +kernel, by rfl⟩
theorem own20 : Own Try.prog 20 := ⟨_, Try.func20, by decide +kernel, by rfl⟩
theorem own21 : Own Try.prog 21 := ⟨_, Try.func21, by decide +kernel, by rfl⟩
theorem own22 : Own Try.prog 22 := ⟨_, Try.func22, by decide +kernel, by rfl⟩
theorem own23 : Own Try.prog 23 := ⟨_, Try.func23, by decide +kernel, by rfl⟩
theorem own24 : Own Try.prog 24 := ⟨_, Try.func24, by decide +kernel, by rfl⟩
theorem own25 : Own Try.prog 25 := ⟨_, Try.func25, by decide +kernel, by rfl⟩
theorem own26 : Own Try.prog 26 := ⟨_, Try.func26, by decide +kernel, by rfl⟩
theorem own27 : Own Try.prog 27 := ⟨_, Try.func27, by decide +kernel, by rfl⟩
theorem own28 : Own Try.prog 28 := ⟨_, Try.func28, by decide +kernel, by rfl⟩
theorem own29 : Own Try.prog 29 := ⟨_, Try.func29, by decide +kernel, by rfl⟩
theorem own30 : Own Try.prog 30 := ⟨_, Try.func30, by decide +kernel, by rfl⟩
theorem own31 : Own Try.prog 31 := ⟨_, Try.func31, by decide +kernel, by rfl⟩
theorem own32 : Own Try.prog 32 := ⟨_, Try.func32, by decide +kernel, by rfl⟩
theorem own33 : Own Try.prog 33 := ⟨_, Try.func33, by decide +kernel, by rfl⟩
theorem own34 : Own Try.prog 34 := ⟨_, Try.func34, by decide +kernel, by rfl⟩
theorem own35 : Own Try.prog 35 := ⟨_, Try.func35, by decide +kernel, by rfl⟩
theorem own36 : Own Try.prog 36 := ⟨_, Try.func36, by decide +kernel, by rfl⟩
theorem own37 : Own Try.prog 37 := ⟨_, Try.func37, by decide +kernel, by rfl⟩
theorem own38 : Own Try.prog 38 := ⟨_, Try.func38, by decide +kernel, by rfl⟩
theorem own39 : Own Try.prog 39 := ⟨_, Try.func39, by decide +kernel, by rfl⟩
theorem own40 : Own Try.prog 40 := ⟨_, Try.func40, by decide +kernel, by rfl⟩
theorem own41 : Own Try.prog 41 := ⟨_, Try.func41, by decide +kernel, by rfl⟩
theorem own42 : Own Try.prog 42 := ⟨_, Try.func42, by decide +kernel, by rfl⟩
theorem own43 : Own Try.prog 43 := ⟨_, Try.func43, by decide +kernel, by rfl⟩
theorem own44 : Own Try.prog 44 := ⟨_, Try.func44, by decide +kernel, by rfl⟩
theorem own45 : Own Try.prog 45 := ⟨_, Try.func45, by decide +kernel, by rfl⟩
theorem own46 : Own Try.prog 46 := ⟨_, Try.func46, by decide +kernel, by rfl⟩
theorem own47 : Own Try.prog 47 := ⟨_, Try.func47, by decide +kernel, by rfl⟩
theorem own48 : Own Try.prog 48 := ⟨_, Try.func48, by decide +kernel, by rfl⟩
theorem own49 : Own Try.prog 49 := ⟨_, Try.func49, by decide +kernel, by rfl⟩
theorem own50 : Own Try.prog 50 := ⟨_, Try.func50, by decide +kernel, by rfl⟩
theorem own51 : Own Try.prog 51 := ⟨_, Try.func51, by decide +kernel, by rfl⟩
theorem own52 : Own Try.prog 52 := ⟨_, Try.func52, by decide +kernel, by rfl⟩
theorem own53 : Own Try.prog 53 := ⟨_, Try.func53, by decide +kernel, by rfl⟩
theorem own54 : Own Try.prog 54 := ⟨_, Try.func54, by decide +kernel, by rfl⟩
theorem own55 : Own Try.prog 55 := ⟨_, Try.func55, by decide +kernel, by rfl⟩
theorem own56 : Own Try.prog 56 := ⟨_, Try.func56, by decide +kernel, by rfl⟩
theorem own57 : Own Try.prog 57 := ⟨_, Try.func57, by decide +kernel, by rfl⟩
theorem own58 : Own Try.prog 58 := ⟨_, Try.func58, by decide +kernel, by rfl⟩
theorem own59 : Own Try.prog 59 := ⟨_, Try.func59, by decide +kernel, by rfl⟩
theorem own60 : Own Try.prog 60 := ⟨_, Try.func60, by decide +kernel, by rfl⟩
theorem own61 : Own Try.prog 61 := ⟨_, Try.func61, by decide +kernel, by rfl⟩
theorem own62 : Own Try.prog 62 := ⟨_, Try.func62, by decide +kernel, by rfl⟩
theorem own63 : Own Try.prog 63 := ⟨_, Try.func63, by decide +kernel, by rfl⟩
theorem own64 : Own Try.prog 64 := ⟨_, Try.func64, by decide +kernel, by rfl⟩
theorem own65 : Own Try.prog 65 := ⟨_, Try.func65, by decide +kernel, by rfl⟩
theorem own66 : Own Try.prog 66 := ⟨_, Try.func66, by decide +kernel, by rfl⟩
theorem own67 : Own Try.prog 67 := ⟨_, Try.func67, by decide +kernel, by rfl⟩
theorem own68 : Own Try.prog 68 := ⟨_, Try.func68, by decide +kernel, by rfl⟩
theorem own69 : Own Try.prog 69 := ⟨_, Try.func69, by decide +kernel, by rfl⟩
theorem own70 : Own Try.prog 70 := ⟨_, Try.func70, by decide +kernel, by rfl⟩
theorem own71 : Own Try.prog 71 := ⟨_, Try.func71, by decide +kernel, by rfl⟩
theorem own72 : Own Try.prog 72 := ⟨_, Try.func72, by decide +kernel, by rfl⟩
end Go.Proofs.Ytgndmmbbhfmegaa
