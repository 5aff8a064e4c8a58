/- Proved on the way to: coil/coillaw5.UnfoldRuns returns true whatever the memory, its seven listed package variables reading as the program's text lays them. -/
import Derived.Test.YtbifdhlblpfkhaaGreatDoorC1
import Derived.Test.YtbifdhlblpfkhaaGreatDoorB3
import Derived.KernelRfl
import Derived.Test.YtbifdhlblpfkhaaGreatDoorC2
set_option linter.unusedSectionVars false
set_option linter.unusedSimpArgs false
set_option linter.unusedVariables false
namespace Go.Abs.Run
open Go Go.Abs Go.Proofs
theorem c3 : OkF Tryz.prog 3 f3 := .mk' (D := ⟨[]⟩) (by kernel_rfl) Tryz.func3 (by kernel_rfl) rfl
theorem c4 : OkF Tryz.prog 4 f4 := .mk' (D := ⟨[]⟩) (by kernel_rfl) Tryz.func4 (by kernel_rfl) rfl
theorem c5 : OkF Tryz.prog 5 f5 := .mk' (D := ⟨[(9217,1),(24588,2),(32786,2)]⟩) (by kernel_rfl) Tryz.func5 (by kernel_rfl) rfl
theorem c6 : OkF Tryz.prog 6 f6 := .mk' (D := ⟨[]⟩) (by kernel_rfl) Tryz.func6 (by kernel_rfl) rfl
theorem c7 : OkF Tryz.prog 7 f7 := .mk' (D := ⟨[]⟩) (by kernel_rfl) Tryz.func7 (by kernel_rfl) rfl
theorem c8 : OkF Tryz.prog 8 f8 := .mk' (D := ⟨[]⟩) (by kernel_rfl) Tryz.func8 (by kernel_rfl) rfl
theorem c9 : OkF Tryz.prog 9 f9 := .mk' (D := ⟨[]⟩) (by kernel_rfl) Tryz.func9 (by kernel_rfl) rfl
theorem c10 : OkF Tryz.prog 10 f10 := .mk' (D := ⟨[]⟩) (by kernel_rfl) Tryz.func10 (by kernel_rfl) rfl
theorem c11 : OkF Tryz.prog 11 f11 := .mk' (D := ⟨[]⟩) (by kernel_rfl) Tryz.func11 (by kernel_rfl) rfl
theorem c12 : OkF Tryz.prog 12 f12 := .mk' (D := ⟨[(1026,1)]⟩) (by kernel_rfl) Tryz.func12 (by kernel_rfl) rfl
theorem c13 : OkF Tryz.prog 13 f13 := .mk' (D := ⟨[(2054,1)]⟩) (by kernel_rfl) Tryz.func13 (by kernel_rfl) rfl
theorem c14 : OkF Tryz.prog 14 f14 := .mk' (D := ⟨[]⟩) (by kernel_rfl) Tryz.func14 (by kernel_rfl) rfl
theorem c15 : OkF Tryz.prog 15 f15 := .mk' (D := ⟨[]⟩) (by kernel_rfl) Tryz.func15 (by kernel_rfl) rfl
theorem c18 : OkF Tryz.prog 18 f18 := .mk' (D := ⟨[(1024,1)]⟩) (by kernel_rfl) Tryz.func18 (by kernel_rfl) rfl
end Go.Abs.Run

namespace Go.Abs.Run
open Go Go.Abs Go.Proofs
theorem c19 : OkF Tryz.prog 19 f19 := .mk' (D := ⟨[]⟩) (by kernel_rfl) Tryz.func19 (by kernel_rfl) rfl
theorem c20 : OkF Tryz.prog 20 f20 := .mk' (D := ⟨[]⟩) (by kernel_rfl) Tryz.func20 (by kernel_rfl) rfl
theorem c21 : OkF Tryz.prog 21 f21 := .mk' (D := ⟨[]⟩) (by kernel_rfl) Tryz.func21 (by kernel_rfl) rfl
theorem c22 : OkF Tryz.prog 22 f22 := .mk' (D := ⟨[]⟩) (by kernel_rfl) Tryz.func22 (by kernel_rfl) rfl
theorem c23 : OkF Tryz.prog 23 f23 := .mk' (D := ⟨[]⟩) (by kernel_rfl) Tryz.func23 (by kernel_rfl) rfl
theorem c24 : OkF Tryz.prog 24 f24 := .mk' (D := ⟨[]⟩) (by kernel_rfl) Tryz.func24 (by kernel_rfl) rfl
theorem c25 : OkF Tryz.prog 25 f25 := .mk' (D := ⟨[]⟩) (by kernel_rfl) Tryz.func25 (by kernel_rfl) rfl
theorem c26 : OkF Tryz.prog 26 f26 := .mk' (D := ⟨[]⟩) (by kernel_rfl) Tryz.func26 (by kernel_rfl) rfl
theorem c27 : OkF Tryz.prog 27 f27 := .mk' (D := ⟨[(5136,2)]⟩) (by kernel_rfl) Tryz.func27 (by kernel_rfl) rfl
theorem c28 : OkF Tryz.prog 28 f28 := .mk' (D := ⟨[]⟩) (by kernel_rfl) Tryz.func28 (by kernel_rfl) rfl
theorem c30 : OkF Tryz.prog 30 f30 := .mk' (D := ⟨[]⟩) (by kernel_rfl) Tryz.func30 (by kernel_rfl) rfl
theorem c31 : OkF Tryz.prog 31 f31 := .mk' (D := ⟨[]⟩) (by kernel_rfl) Tryz.func31 (by kernel_rfl) rfl
theorem c32 : OkF Tryz.prog 32 f32 := .mk' (D := ⟨[]⟩) (by kernel_rfl) Tryz.func32 (by kernel_rfl) rfl
theorem c34 : OkF Tryz.prog 34 f34 := .mk' (D := ⟨[]⟩) (by kernel_rfl) Tryz.func34 (by kernel_rfl) rfl
theorem c35 : OkF Tryz.prog 35 f35 := .mk' (D := ⟨[]⟩) (by kernel_rfl) Tryz.func35 (by kernel_rfl) rfl
theorem c36 : OkF Tryz.prog 36 f36 := .mk' (D := ⟨[(11267,1)]⟩) (by kernel_rfl) Tryz.func36 (by kernel_rfl) rfl
theorem c37 : OkF Tryz.prog 37 f37 := .mk' (D := ⟨[]⟩) (by kernel_rfl) Tryz.func37 (by kernel_rfl) rfl
theorem c38 : OkF Tryz.prog 38 f38 := .mk' (D := ⟨[]⟩) (by kernel_rfl) Tryz.func38 (by kernel_rfl) rfl
theorem c39 : OkF Tryz.prog 39 f39 := .mk' (D := ⟨[]⟩) (by kernel_rfl) Tryz.func39 (by kernel_rfl) rfl
theorem c40 : OkF Tryz.prog 40 f40 := .mk' (D := ⟨[]⟩) (by kernel_rfl) Tryz.func40 (by kernel_rfl) rfl
theorem c41 : OkF Tryz.prog 41 f41 := .mk' (D := ⟨[(4103,1)]⟩) (by kernel_rfl) Tryz.func41 (by kernel_rfl) rfl
theorem c42 : OkF Tryz.prog 42 f42 := .mk' (D := ⟨[]⟩) (by kernel_rfl) Tryz.func42 (by kernel_rfl) rfl
theorem c43 : OkF Tryz.prog 43 f43 := .mk' (D := ⟨[]⟩) (by kernel_rfl) Tryz.func43 (by kernel_rfl) rfl
theorem c44 : OkF Tryz.prog 44 f44 := .mk' (D := ⟨[]⟩) (by kernel_rfl) Tryz.func44 (by kernel_rfl) rfl
theorem c45 : OkF Tryz.prog 45 f45 := .mk' (D := ⟨[]⟩) (by kernel_rfl) Tryz.func45 (by kernel_rfl) rfl
theorem c46 : OkF Tryz.prog 46 f46 := .mk' (D := ⟨[]⟩) (by kernel_rfl) Tryz.func46 (by kernel_rfl) rfl
theorem c47 : OkF Tryz.prog 47 f47 := .mk' (D := ⟨[]⟩) (by kernel_rfl) Tryz.func47 (by kernel_rfl) rfl
theorem c48 : OkF Tryz.prog 48 f48 := .mk' (D := ⟨[]⟩) (by kernel_rfl) Tryz.func48 (by kernel_rfl) rfl
end Go.Abs.Run

namespace Go.Abs.Run
open Go Go.Abs Go.Proofs
theorem c49 : OkF Tryz.prog 49 f49 := .mk' (D := ⟨[]⟩) (by kernel_rfl) Tryz.func49 (by kernel_rfl) rfl
theorem c52 : OkF Tryz.prog 52 f52 := .mk' (D := ⟨[]⟩) (by kernel_rfl) Tryz.func52 (by kernel_rfl) rfl
theorem c53 : OkF Tryz.prog 53 f53 := .mk' (D := ⟨[]⟩) (by kernel_rfl) Tryz.func53 (by kernel_rfl) rfl
theorem c57 : OkF Tryz.prog 57 f57 := .mk' (D := ⟨[]⟩) (by kernel_rfl) Tryz.func57 (by kernel_rfl) rfl
theorem c58 : OkF Tryz.prog 58 f58 := .mk' (D := ⟨[]⟩) (by kernel_rfl) Tryz.func58 (by kernel_rfl) rfl
theorem c59 : OkF Tryz.prog 59 f59 := .mk' (D := ⟨[]⟩) (by kernel_rfl) Tryz.func59 (by kernel_rfl) rfl
theorem c60 : OkF Tryz.prog 60 f60 := .mk' (D := ⟨[]⟩) (by kernel_rfl) Tryz.func60 (by kernel_rfl) rfl
theorem c61 : OkF Tryz.prog 61 f61 := .mk' (D := ⟨[]⟩) (by kernel_rfl) Tryz.func61 (by kernel_rfl) rfl
theorem c62 : OkF Tryz.prog 62 f62 := .mk' (D := ⟨[]⟩) (by kernel_rfl) Tryz.func62 (by kernel_rfl) rfl
theorem c63 : OkF Tryz.prog 63 f63 := .mk' (D := ⟨[]⟩) (by kernel_rfl) Tryz.func63 (by kernel_rfl) rfl
theorem c64 : OkF Tryz.prog 64 f64 := .mk' (D := ⟨[]⟩) (by kernel_rfl) Tryz.func64 (by kernel_rfl) rfl
theorem c66 : OkF Tryz.prog 66 f66 := .mk' (D := ⟨[]⟩) (by kernel_rfl) Tryz.func66 (by kernel_rfl) rfl
theorem c67 : OkF Tryz.prog 67 f67 := .mk' (D := ⟨[]⟩) (by kernel_rfl) Tryz.func67 (by kernel_rfl) rfl
theorem c68 : OkF Tryz.prog 68 f68 := .mk' (D := ⟨[(1029,1)]⟩) (by kernel_rfl) Tryz.func68 (by kernel_rfl) rfl
theorem c69 : OkF Tryz.prog 69 f69 := .mk' (D := ⟨[]⟩) (by kernel_rfl) Tryz.func69 (by kernel_rfl) rfl
theorem c70 : OkF Tryz.prog 70 f70 := .mk' (D := ⟨[]⟩) (by kernel_rfl) Tryz.func70 (by kernel_rfl) rfl
theorem c71 : OkF Tryz.prog 71 f71 := .mk' (D := ⟨[]⟩) (by kernel_rfl) Tryz.func71 (by kernel_rfl) rfl
theorem c72 : OkF Tryz.prog 72 f72 := .mk' (D := ⟨[]⟩) (by kernel_rfl) Tryz.func72 (by kernel_rfl) rfl
theorem c73 : OkF Tryz.prog 73 f73 := .mk' (D := ⟨[]⟩) (by kernel_rfl) Tryz.func73 (by kernel_rfl) rfl
theorem c74 : OkF Tryz.prog 74 f74 := .mk' (D := ⟨[]⟩) (by kernel_rfl) Tryz.func74 (by kernel_rfl) rfl
theorem c75 : OkF Tryz.prog 75 f75 := .mk' (D := ⟨[]⟩) (by kernel_rfl) Tryz.func75 (by kernel_rfl) rfl
theorem c76 : OkF Tryz.prog 76 f76 := .mk' (D := ⟨[]⟩) (by kernel_rfl) Tryz.func76 (by kernel_rfl) rfl
theorem c78 : OkF Tryz.prog 78 f78 := .mk' (D := ⟨[]⟩) (by kernel_rfl) Tryz.func78 (by kernel_rfl) rfl
theorem c79 : OkF Tryz.prog 79 f79 := .mk' (D := ⟨[]⟩) (by kernel_rfl) Tryz.func79 (by kernel_rfl) rfl
theorem c80 : OkF Tryz.prog 80 f80 := .mk' (D := ⟨[]⟩) (by kernel_rfl) Tryz.func80 (by kernel_rfl) rfl
theorem c84 : OkF Tryz.prog 84 f84 := .mk' (D := ⟨[]⟩) (by kernel_rfl) Tryz.func84 (by kernel_rfl) rfl
end Go.Abs.Run

namespace Go.Abs.Run
open Go Go.Abs Go.Proofs
theorem c85 : OkF Tryz.prog 85 f85 := .mk' (D := ⟨[]⟩) (by kernel_rfl) Tryz.func85 (by kernel_rfl) rfl
theorem c86 : OkF Tryz.prog 86 f86 := .mk' (D := ⟨[]⟩) (by kernel_rfl) Tryz.func86 (by kernel_rfl) rfl
theorem c90 : OkF Tryz.prog 90 f90 := .mk' (D := ⟨[]⟩) (by kernel_rfl) Tryz.func90 (by kernel_rfl) rfl
theorem c92 : OkF Tryz.prog 92 f92 := .mk' (D := ⟨[]⟩) (by kernel_rfl) Tryz.func92 (by kernel_rfl) rfl
theorem c101 : OkF Tryz.prog 101 f101 := .mk' (D := ⟨[]⟩) (by kernel_rfl) Tryz.func101 (by kernel_rfl) rfl
theorem c102 : OkF Tryz.prog 102 f102 := .mk' (D := ⟨[]⟩) (by kernel_rfl) Tryz.func102 (by kernel_rfl) rfl
theorem c111 : OkF Tryz.prog 111 f111 := .mk' (D := ⟨[(1028,166121583646243724592020762093058008531655396975369217)]⟩) (by kernel_rfl) Tryz.func111 (by kernel_rfl) rfl
theorem c112 : OkF Tryz.prog 112 f112 := .mk' (D := ⟨[]⟩) (by kernel_rfl) Tryz.func112 (by kernel_rfl) rfl
theorem c113 : OkF Tryz.prog 113 f113 := .mk' (D := ⟨[]⟩) (by kernel_rfl) Tryz.func113 (by kernel_rfl) rfl
theorem c114 : OkF Tryz.prog 114 f114 := .mk' (D := ⟨[]⟩) (by kernel_rfl) Tryz.func114 (by kernel_rfl) rfl
theorem c115 : OkF Tryz.prog 115 f115 := .mk' (D := ⟨[]⟩) (by kernel_rfl) Tryz.func115 (by kernel_rfl) rfl
theorem c116 : OkF Tryz.prog 116 f116 := .mk' (D := ⟨[]⟩) (by kernel_rfl) Tryz.func116 (by kernel_rfl) rfl
theorem c117 : OkF Tryz.prog 117 f117 := .mk' (D := ⟨[]⟩) (by kernel_rfl) Tryz.func117 (by kernel_rfl) rfl
theorem c118 : OkF Tryz.prog 118 f118 := .mk' (D := ⟨[]⟩) (by kernel_rfl) Tryz.func118 (by kernel_rfl) rfl
theorem c125 : OkF Tryz.prog 125 f125 := .mk' (D := ⟨[]⟩) (by kernel_rfl) Tryz.func125 (by kernel_rfl) rfl
theorem c126 : OkF Tryz.prog 126 f126 := .mk' (D := ⟨[]⟩) (by kernel_rfl) Tryz.func126 (by kernel_rfl) rfl
theorem c127 : OkF Tryz.prog 127 f127 := .mk' (D := ⟨[]⟩) (by kernel_rfl) Tryz.func127 (by kernel_rfl) rfl
theorem c129 : OkF Tryz.prog 129 f129 := .mk' (D := ⟨[]⟩) (by kernel_rfl) Tryz.func129 (by kernel_rfl) rfl
theorem c133 : OkF Tryz.prog 133 f133 := .mk' (D := ⟨[]⟩) (by kernel_rfl) Tryz.func133 (by kernel_rfl) rfl
theorem c134 : OkF Tryz.prog 134 f134 := .mk' (D := ⟨[]⟩) (by kernel_rfl) Tryz.func134 (by kernel_rfl) rfl
theorem c148 : OkF Tryz.prog 148 f148 := .mk' (D := ⟨[]⟩) (by kernel_rfl) Tryz.func148 (by kernel_rfl) rfl
theorem c157 : OkF Tryz.prog 157 f157 := .mk' (D := ⟨[]⟩) (by kernel_rfl) Tryz.func157 (by kernel_rfl) rfl
theorem c158 : OkF Tryz.prog 158 f158 := .mk' (D := ⟨[]⟩) (by kernel_rfl) Tryz.func158 (by kernel_rfl) rfl
theorem c162 : OkF Tryz.prog 162 f162 := .mk' (D := ⟨[]⟩) (by kernel_rfl) Tryz.func162 (by kernel_rfl) rfl
theorem c174 : OkF Tryz.prog 174 f174 := .mk' (D := ⟨[]⟩) (by kernel_rfl) Tryz.func174 (by kernel_rfl) rfl
theorem c178 : OkF Tryz.prog 178 f178 := .mk' (D := ⟨[]⟩) (by kernel_rfl) Tryz.func178 (by kernel_rfl) rfl
theorem c186 : OkF Tryz.prog 186 f186 := .mk' (D := ⟨[]⟩) (by kernel_rfl) Tryz.func186 (by kernel_rfl) rfl
theorem c197 : OkF Tryz.prog 197 f197 := .mk' (D := ⟨[]⟩) (by kernel_rfl) Tryz.func197 (by kernel_rfl) rfl
end Go.Abs.Run

namespace Go.Abs.Run
open Go Go.Abs Go.Proofs
theorem c198 : OkF Tryz.prog 198 f198 := .mk' (D := ⟨[]⟩) (by kernel_rfl) Tryz.func198 (by kernel_rfl) rfl
theorem c202 : OkF Tryz.prog 202 f202 := .mk' (D := ⟨[]⟩) (by kernel_rfl) Tryz.func202 (by kernel_rfl) rfl
theorem c205 : OkF Tryz.prog 205 f205 := .mk' (D := ⟨[]⟩) (by kernel_rfl) Tryz.func205 (by kernel_rfl) rfl
theorem c208 : OkF Tryz.prog 208 f208 := .mk' (D := ⟨[]⟩) (by kernel_rfl) Tryz.func208 (by kernel_rfl) rfl
theorem c209 : OkF Tryz.prog 209 f209 := .mk' (D := ⟨[]⟩) (by kernel_rfl) Tryz.func209 (by kernel_rfl) rfl
theorem c211 : OkF Tryz.prog 211 f211 := .mk' (D := ⟨[]⟩) (by kernel_rfl) Tryz.func211 (by kernel_rfl) rfl
theorem c213 : OkF Tryz.prog 213 f213 := .mk' (D := ⟨[]⟩) (by kernel_rfl) Tryz.func213 (by kernel_rfl) rfl
theorem c216 : OkF Tryz.prog 216 f216 := .mk' (D := ⟨[(14337,1)]⟩) (by kernel_rfl) Tryz.func216 (by kernel_rfl) rfl
end Go.Abs.Run

