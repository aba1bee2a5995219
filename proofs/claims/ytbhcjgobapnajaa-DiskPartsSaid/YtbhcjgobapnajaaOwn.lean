/- Which functions have a body of their own. No condition. -/
import Derived.Test.YtbhcjgobapnajaaSy1
import Derived.Test.YtbhcjgobapnajaaSy2
import Derived.Test.YtbhcjgobapnajaaChecked
import Derived.KernelRfl
namespace Go.Proofs.Ytbhcjgobapnajaa
open Go Go.Sy
theorem _root_.Go.Proofs.Try.mix : Try.prog.follows .mixedOrders = true := by kernel_rfl
theorem own12 : Own Try.prog 12 := ⟨_, Try.func12, by decide +kernel, by rfl⟩
theorem own13 : Own Try.prog 13 := ⟨_, Try.func13, by decide +kernel, by rfl⟩
theorem own14 : Own Try.prog 14 := ⟨_, Try.func14, by decide +kernel, by rfl⟩
theorem own15 : Own Try.prog 15 := ⟨_, Try.func15, by decide +kernel, by rfl⟩
theorem own16 : Own Try.prog 16 := ⟨_, Try.func16, by decide +kernel, by rfl⟩
theorem own17 : Own Try.prog 17 := ⟨_, Try.func17, by decide +kernel, by rfl⟩
theorem own18 : Own Try.prog 18 := ⟨_, Try.func18, by decide +kernel, by rfl⟩
theorem own19 : Own Try.prog 19 := ⟨_, Try.func19, by decide +kernel, by rfl⟩
theorem own20 : Own Try.prog 20 := ⟨_, Try.func20, by decide +kernel, by rfl⟩
theorem own21 : Own Try.prog 21 := ⟨_, Try.func21, by decide +kernel, by rfl⟩
theorem own22 : Own Try.prog 22 := ⟨_, Try.func22, by decide +kernel, by rfl⟩
theorem own23 : Own Try.prog 23 := ⟨_, Try.func23, by decide +kernel, by rfl⟩
theorem own24 : Own Try.prog 24 := ⟨_, Try.func24, by decide +kernel, by rfl⟩
theorem own25 : Own Try.prog 25 := ⟨_, Try.func25, by decide +kernel, by rfl⟩
theorem own26 : Own Try.prog 26 := ⟨_, Try.func26, by decide +kernel, by rfl⟩
theorem own27 : Own Try.prog 27 := ⟨_, Try.func27, by decide +kernel, by rfl⟩
theorem own28 : Own Try.prog 28 := ⟨_, Try.func28, by decide +kernel, by rfl⟩
theorem own29 : Own Try.prog 29 := ⟨_, Try.func29, by decide +kernel, by rfl⟩
theorem own30 : Own Try.prog 30 := ⟨_, Try.func30, by decide +kernel, by rfl⟩
theorem own31 : Own Try.prog 31 := ⟨_, Try.func31, by decide +kernel, by rfl⟩
theorem own48 : Own Try.prog 48 := ⟨_, Try.func48, by decide +kernel, by rfl⟩
theorem own50 : Own Try.prog 50 := ⟨_, Try.func50, by decide +kernel, by rfl⟩
theorem own52 : Own Try.prog 52 := ⟨_, Try.func52, by decide +kernel, by rfl⟩
theorem own57 : Own Try.prog 57 := ⟨_, Try.func57, by decide +kernel, by rfl⟩
theorem own58 : Own Try.prog 58 := ⟨_, Try.func58, by decide +kernel, by rfl⟩
theorem own59 : Own Try.prog 59 := ⟨_, Try.func59, by decide +kernel, by rfl⟩
theorem own60 : Own Try.prog 60 := ⟨_, Try.func60, by decide +kernel, by rfl⟩
theorem own61 : Own Try.prog 61 := ⟨_, Try.func61, by decide +kernel, by rfl⟩
theorem own62 : Own Try.prog 62 := ⟨_, Try.func62, by decide +kernel, by rfl⟩
theorem own63 : Own Try.prog 63 := ⟨_, Try.func63, by decide +kernel, by rfl⟩
theorem own64 : Own Try.prog 64 := ⟨_, Try.func64, by decide +kernel, by rfl⟩
theorem own65 : Own Try.prog 65 := ⟨_, Try.func65, by decide +kernel, by rfl⟩
theorem own66 : Own Try.prog 66 := ⟨_, Try.func66, by decide +kernel, by rfl⟩
theorem own67 : Own Try.prog 67 := ⟨_, Try.func67, by decide +kernel, by rfl⟩
theorem own68 : Own Try.prog 68 := ⟨_, Try.func68, by decide +kernel, by rfl⟩
theorem own69 : Own Try.prog 69 := ⟨_, Try.func69, by decide +kernel, by rfl⟩
theorem own70 : Own Try.prog 70 := ⟨_, Try.func70, by decide +kernel, by rfl⟩
theorem own71 : Own Try.prog 71 := ⟨_, Try.func71, by decide +kernel, by rfl⟩
theorem own72 : Own Try.prog 72 := ⟨_, Try.func72, by decide +kernel, by rfl⟩
theorem own73 : Own Try.prog 73 := ⟨_, Try.func73, by decide +kernel, by rfl⟩
theorem own74 : Own Try.prog 74 := ⟨_, Try.func74, by decide +kernel, by rfl⟩
theorem own75 : Own Try.prog 75 := ⟨_, Try.func75, by decide +kernel, by rfl⟩
theorem own103 : Own Try.prog 103 := ⟨_, Try.func103, by decide +kernel, by rfl⟩
theorem own104 : Own Try.prog 104 := ⟨_, Try.func104, by decide +kernel, by rfl⟩
theorem own106 : Own Try.prog 106 := ⟨_, Try.func106, by decide +kernel, by rfl⟩
theorem own114 : Own Try.prog 114 := ⟨_, Try.func114, by decide +kernel, by rfl⟩
theorem own115 : Own Try.prog 115 := ⟨_, Try.func115, by decide +kernel, by rfl⟩
theorem own116 : Own Try.prog 116 := ⟨_, Try.func116, by decide +kernel, by rfl⟩
theorem own117 : Own Try.prog 117 := ⟨_, Try.func117, by decide +kernel, by rfl⟩
theorem own118 : Own Try.prog 118 := ⟨_, Try.func118, by decide +kernel, by rfl⟩
theorem own119 : Own Try.prog 119 := ⟨_, Try.func119, by decide +kernel, by rfl⟩
theorem own120 : Own Try.prog 120 := ⟨_, Try.func120, by decide +kernel, by rfl⟩
theorem own121 : Own Try.prog 121 := ⟨_, Try.func121, by decide +kernel, by rfl⟩
theorem own122 : Own Try.prog 122 := ⟨_, Try.func122, by decide +kernel, by rfl⟩
theorem own123 : Own Try.prog 123 := ⟨_, Try.func123, by decide +kernel, by rfl⟩
theorem own124 : Own Try.prog 124 := ⟨_, Try.func124, by decide +kernel, by rfl⟩
theorem own128 : Own Try.prog 128 := ⟨_, Try.func128, by decide +kernel, by rfl⟩
theorem own140 : Own Try.prog 140 := ⟨_, Try.func140, by decide +kernel, by rfl⟩
theorem own141 : Own Try.prog 141 := ⟨_, Try.func141, by decide +kernel, by rfl⟩
theorem own142 : Own Try.prog 142 := ⟨_, Try.func142, by decide +kernel, by rfl⟩
theorem own143 : Own Try.prog 143 := ⟨_, Try.func143, by decide +kernel, by rfl⟩
theorem own152 : Own Try.prog 152 := ⟨_, Try.func152, by decide +kernel, by rfl⟩
theorem own153 : Own Try.prog 153 := ⟨_, Try.func153, by decide +kernel, by rfl⟩
theorem own154 : Own Try.prog 154 := ⟨_, Try.func154, by decide +kernel, by rfl⟩
theorem own155 : Own Try.prog 155 := ⟨_, Try.func155, by decide +kernel, by rfl⟩
theorem own156 : Own Try.prog 156 := ⟨_, Try.func156, by decide +kernel, by rfl⟩
theorem own157 : Own Try.prog 157 := ⟨_, Try.func157, by decide +kernel, by rfl⟩
theorem own159 : Own Try.prog 159 := ⟨_, Try.func159, by decide +kernel, by rfl⟩
theorem own160 : Own Try.prog 160 := ⟨_, Try.func160, by decide +kernel, by rfl⟩
theorem own162 : Own Try.prog 162 := ⟨_, Try.func162, by decide +kernel, by rfl⟩
theorem own167 : Own Try.prog 167 := ⟨_, Try.func167, by decide +kernel, by rfl⟩
theorem own175 : Own Try.prog 175 := ⟨_, Try.func175, by decide +kernel, by rfl⟩
theorem own177 : Own Try.prog 177 := ⟨_, Try.func177, by decide +kernel, by rfl⟩
end Go.Proofs.Ytbhcjgobapnajaa
