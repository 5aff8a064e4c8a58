/- Proved on the way to: coillaw14.MachineRuns returns true whatever the memory, its listed package variables reading as the program's text lays them. -/
import Derived.Test.YtmingkjfggnnhaaGreatDoorC1
import Derived.Test.YtmingkjfggnnhaaGreatDoorB3
import Derived.KernelRfl
import Derived.Test.YtmingkjfggnnhaaGreatDoorC2
set_option linter.unusedSectionVars false
set_option linter.unusedSimpArgs false
set_option linter.unusedVariables false
namespace Go.Abs.Run
open Go Go.Abs Go.Proofs
theorem c3 : OkF Tryz.prog 3 f3 := .mk' (D := ⟨[(4102,1),(13317,1),(14342,1),(15366,1),(16389,1),(17409,1)]⟩) (by kernel_rfl) Tryz.func3 (by kernel_rfl) rfl
theorem c4 : OkF Tryz.prog 4 f4 := .mk' (D := ⟨[]⟩) (by kernel_rfl) Tryz.func4 (by kernel_rfl) rfl
theorem c5 : OkF Tryz.prog 5 f5 := .mk' (D := ⟨[]⟩) (by kernel_rfl) Tryz.func5 (by kernel_rfl) rfl
theorem c6 : OkF Tryz.prog 6 f6 := .mk' (D := ⟨[(1,1)]⟩) (by kernel_rfl) Tryz.func6 (by kernel_rfl) rfl
theorem c7 : OkF Tryz.prog 7 f7 := .mk' (D := ⟨[]⟩) (by kernel_rfl) Tryz.func7 (by kernel_rfl) rfl
theorem c8 : OkF Tryz.prog 8 f8 := .mk' (D := ⟨[(1,1)]⟩) (by kernel_rfl) Tryz.func8 (by kernel_rfl) rfl
theorem c9 : OkF Tryz.prog 9 f9 := .mk' (D := ⟨[]⟩) (by kernel_rfl) Tryz.func9 (by kernel_rfl) rfl
theorem c10 : OkF Tryz.prog 10 f10 := .mk' (D := ⟨[(3074,1),(8211,1),(10243,1),(14346,1)]⟩) (by kernel_rfl) Tryz.func10 (by kernel_rfl) rfl
theorem c11 : OkF Tryz.prog 11 f11 := .mk' (D := ⟨[(7174,1),(7176,1)]⟩) (by kernel_rfl) Tryz.func11 (by kernel_rfl) rfl
theorem c12 : OkF Tryz.prog 12 f12 := .mk' (D := ⟨[(3075,1)]⟩) (by kernel_rfl) Tryz.func12 (by kernel_rfl) rfl
theorem c13 : OkF Tryz.prog 13 f13 := .mk' (D := ⟨[(0,1)]⟩) (by kernel_rfl) Tryz.func13 (by kernel_rfl) rfl
theorem c14 : OkF Tryz.prog 14 f14 := .mk' (D := ⟨[]⟩) (by kernel_rfl) Tryz.func14 (by kernel_rfl) rfl
theorem c15 : OkF Tryz.prog 15 f15 := .mk' (D := ⟨[]⟩) (by kernel_rfl) Tryz.func15 (by kernel_rfl) rfl
theorem c16 : OkF Tryz.prog 16 f16 := .mk' (D := ⟨[(2049,1),(2052,1)]⟩) (by kernel_rfl) Tryz.func16 (by kernel_rfl) rfl
theorem c17 : OkF Tryz.prog 17 f17 := .mk' (D := ⟨[]⟩) (by kernel_rfl) Tryz.func17 (by kernel_rfl) rfl
theorem c18 : OkF Tryz.prog 18 f18 := .mk' (D := ⟨[(0,1)]⟩) (by kernel_rfl) Tryz.func18 (by kernel_rfl) rfl
theorem c19 : OkF Tryz.prog 19 f19 := .mk' (D := ⟨[]⟩) (by kernel_rfl) Tryz.func19 (by kernel_rfl) rfl
theorem c20 : OkF Tryz.prog 20 f20 := .mk' (D := ⟨[]⟩) (by kernel_rfl) Tryz.func20 (by kernel_rfl) rfl
theorem c21 : OkF Tryz.prog 21 f21 := .mk' (D := ⟨[]⟩) (by kernel_rfl) Tryz.func21 (by kernel_rfl) rfl
theorem c22 : OkF Tryz.prog 22 f22 := .mk' (D := ⟨[(3074,1),(3076,1)]⟩) (by kernel_rfl) Tryz.func22 (by kernel_rfl) rfl
theorem c23 : OkF Tryz.prog 23 f23 := .mk' (D := ⟨[]⟩) (by kernel_rfl) Tryz.func23 (by kernel_rfl) rfl
theorem c24 : OkF Tryz.prog 24 f24 := .mk' (D := ⟨[]⟩) (by kernel_rfl) Tryz.func24 (by kernel_rfl) rfl
theorem c25 : OkF Tryz.prog 25 f25 := .mk' (D := ⟨[(1026,1)]⟩) (by kernel_rfl) Tryz.func25 (by kernel_rfl) rfl
theorem c27 : OkF Tryz.prog 27 f27 := .mk' (D := ⟨[]⟩) (by kernel_rfl) Tryz.func27 (by kernel_rfl) rfl
theorem c28 : OkF Tryz.prog 28 f28 := .mk' (D := ⟨[(2054,2),(2056,1),(4109,1)]⟩) (by kernel_rfl) Tryz.func28 (by kernel_rfl) rfl
theorem c29 : OkF Tryz.prog 29 f29 := .mk' (D := ⟨[]⟩) (by kernel_rfl) Tryz.func29 (by kernel_rfl) rfl
theorem c30 : OkF Tryz.prog 30 f30 := .mk' (D := ⟨[]⟩) (by kernel_rfl) Tryz.func30 (by kernel_rfl) rfl
theorem c31 : OkF Tryz.prog 31 f31 := .mk' (D := ⟨[(2054,1)]⟩) (by kernel_rfl) Tryz.func31 (by kernel_rfl) rfl
theorem c32 : OkF Tryz.prog 32 f32 := .mk' (D := ⟨[]⟩) (by kernel_rfl) Tryz.func32 (by kernel_rfl) rfl
theorem c33 : OkF Tryz.prog 33 f33 := .mk' (D := ⟨[]⟩) (by kernel_rfl) Tryz.func33 (by kernel_rfl) rfl
theorem c34 : OkF Tryz.prog 34 f34 := .mk' (D := ⟨[]⟩) (by kernel_rfl) Tryz.func34 (by kernel_rfl) rfl
theorem c35 : OkF Tryz.prog 35 f35 := .mk' (D := ⟨[]⟩) (by kernel_rfl) Tryz.func35 (by kernel_rfl) rfl
theorem c36 : OkF Tryz.prog 36 f36 := .mk' (D := ⟨[]⟩) (by kernel_rfl) Tryz.func36 (by kernel_rfl) rfl
theorem c38 : OkF Tryz.prog 38 f38 := .mk' (D := ⟨[(17409,1),(27658,1),(34826,1)]⟩) (by kernel_rfl) Tryz.func38 (by kernel_rfl) rfl
theorem c39 : OkF Tryz.prog 39 f39 := .mk' (D := ⟨[(5125,2)]⟩) (by kernel_rfl) Tryz.func39 (by kernel_rfl) rfl
theorem c40 : OkF Tryz.prog 40 f40 := .mk' (D := ⟨[]⟩) (by kernel_rfl) Tryz.func40 (by kernel_rfl) rfl
theorem c41 : OkF Tryz.prog 41 f41 := .mk' (D := ⟨[]⟩) (by kernel_rfl) Tryz.func41 (by kernel_rfl) rfl
theorem c42 : OkF Tryz.prog 42 f42 := .mk' (D := ⟨[]⟩) (by kernel_rfl) Tryz.func42 (by kernel_rfl) rfl
theorem c43 : OkF Tryz.prog 43 f43 := .mk' (D := ⟨[]⟩) (by kernel_rfl) Tryz.func43 (by kernel_rfl) rfl
theorem c44 : OkF Tryz.prog 44 f44 := .mk' (D := ⟨[]⟩) (by kernel_rfl) Tryz.func44 (by kernel_rfl) rfl
theorem c45 : OkF Tryz.prog 45 f45 := .mk' (D := ⟨[(1026,1)]⟩) (by kernel_rfl) Tryz.func45 (by kernel_rfl) rfl
theorem c46 : OkF Tryz.prog 46 f46 := .mk' (D := ⟨[]⟩) (by kernel_rfl) Tryz.func46 (by kernel_rfl) rfl
theorem c47 : OkF Tryz.prog 47 f47 := .mk' (D := ⟨[]⟩) (by kernel_rfl) Tryz.func47 (by kernel_rfl) rfl
theorem c48 : OkF Tryz.prog 48 f48 := .mk' (D := ⟨[(0,1)]⟩) (by kernel_rfl) Tryz.func48 (by kernel_rfl) rfl
theorem c49 : OkF Tryz.prog 49 f49 := .mk' (D := ⟨[]⟩) (by kernel_rfl) Tryz.func49 (by kernel_rfl) rfl
theorem c50 : OkF Tryz.prog 50 f50 := .mk' (D := ⟨[]⟩) (by kernel_rfl) Tryz.func50 (by kernel_rfl) rfl
theorem c51 : OkF Tryz.prog 51 f51 := .mk' (D := ⟨[]⟩) (by kernel_rfl) Tryz.func51 (by kernel_rfl) rfl
theorem c52 : OkF Tryz.prog 52 f52 := .mk' (D := ⟨[]⟩) (by kernel_rfl) Tryz.func52 (by kernel_rfl) rfl
theorem c53 : OkF Tryz.prog 53 f53 := .mk' (D := ⟨[]⟩) (by kernel_rfl) Tryz.func53 (by kernel_rfl) rfl
end Go.Abs.Run

namespace Go.Abs.Run
open Go Go.Abs Go.Proofs
theorem c54 : OkF Tryz.prog 54 f54 := .mk' (D := ⟨[]⟩) (by kernel_rfl) Tryz.func54 (by kernel_rfl) rfl
theorem c55 : OkF Tryz.prog 55 f55 := .mk' (D := ⟨[]⟩) (by kernel_rfl) Tryz.func55 (by kernel_rfl) rfl
theorem c56 : OkF Tryz.prog 56 f56 := .mk' (D := ⟨[]⟩) (by kernel_rfl) Tryz.func56 (by kernel_rfl) rfl
theorem c58 : OkF Tryz.prog 58 f58 := .mk' (D := ⟨[]⟩) (by kernel_rfl) Tryz.func58 (by kernel_rfl) rfl
theorem c60 : OkF Tryz.prog 60 f60 := .mk' (D := ⟨[(9217,1),(24588,2),(32786,2)]⟩) (by kernel_rfl) Tryz.func60 (by kernel_rfl) rfl
theorem c61 : OkF Tryz.prog 61 f61 := .mk' (D := ⟨[]⟩) (by kernel_rfl) Tryz.func61 (by kernel_rfl) rfl
theorem c62 : OkF Tryz.prog 62 f62 := .mk' (D := ⟨[]⟩) (by kernel_rfl) Tryz.func62 (by kernel_rfl) rfl
theorem c63 : OkF Tryz.prog 63 f63 := .mk' (D := ⟨[(18437,2),(18439,1)]⟩) (by kernel_rfl) Tryz.func63 (by kernel_rfl) rfl
theorem c64 : OkF Tryz.prog 64 f64 := .mk' (D := ⟨[(3075,1),(3076,1),(3078,1)]⟩) (by kernel_rfl) Tryz.func64 (by kernel_rfl) rfl
theorem c65 : OkF Tryz.prog 65 f65 := .mk' (D := ⟨[]⟩) (by kernel_rfl) Tryz.func65 (by kernel_rfl) rfl
theorem c66 : OkF Tryz.prog 66 f66 := .mk' (D := ⟨[]⟩) (by kernel_rfl) Tryz.func66 (by kernel_rfl) rfl
theorem c67 : OkF Tryz.prog 67 f67 := .mk' (D := ⟨[(1029,1)]⟩) (by kernel_rfl) Tryz.func67 (by kernel_rfl) rfl
theorem c68 : OkF Tryz.prog 68 f68 := .mk' (D := ⟨[]⟩) (by kernel_rfl) Tryz.func68 (by kernel_rfl) rfl
theorem c69 : OkF Tryz.prog 69 f69 := .mk' (D := ⟨[(1040,1)]⟩) (by kernel_rfl) Tryz.func69 (by kernel_rfl) rfl
theorem c70 : OkF Tryz.prog 70 f70 := .mk' (D := ⟨[(0,1)]⟩) (by kernel_rfl) Tryz.func70 (by kernel_rfl) rfl
theorem c71 : OkF Tryz.prog 71 f71 := .mk' (D := ⟨[]⟩) (by kernel_rfl) Tryz.func71 (by kernel_rfl) rfl
theorem c72 : OkF Tryz.prog 72 f72 := .mk' (D := ⟨[]⟩) (by kernel_rfl) Tryz.func72 (by kernel_rfl) rfl
theorem c74 : OkF Tryz.prog 74 f74 := .mk' (D := ⟨[]⟩) (by kernel_rfl) Tryz.func74 (by kernel_rfl) rfl
theorem c75 : OkF Tryz.prog 75 f75 := .mk' (D := ⟨[]⟩) (by kernel_rfl) Tryz.func75 (by kernel_rfl) rfl
theorem c76 : OkF Tryz.prog 76 f76 := .mk' (D := ⟨[(1029,2)]⟩) (by kernel_rfl) Tryz.func76 (by kernel_rfl) rfl
theorem c77 : OkF Tryz.prog 77 f77 := .mk' (D := ⟨[]⟩) (by kernel_rfl) Tryz.func77 (by kernel_rfl) rfl
theorem c78 : OkF Tryz.prog 78 f78 := .mk' (D := ⟨[]⟩) (by kernel_rfl) Tryz.func78 (by kernel_rfl) rfl
theorem c79 : OkF Tryz.prog 79 f79 := .mk' (D := ⟨[]⟩) (by kernel_rfl) Tryz.func79 (by kernel_rfl) rfl
theorem c81 : OkF Tryz.prog 81 f81 := .mk' (D := ⟨[]⟩) (by kernel_rfl) Tryz.func81 (by kernel_rfl) rfl
theorem c82 : OkF Tryz.prog 82 f82 := .mk' (D := ⟨[]⟩) (by kernel_rfl) Tryz.func82 (by kernel_rfl) rfl
theorem c83 : OkF Tryz.prog 83 f83 := .mk' (D := ⟨[]⟩) (by kernel_rfl) Tryz.func83 (by kernel_rfl) rfl
theorem c84 : OkF Tryz.prog 84 f84 := .mk' (D := ⟨[]⟩) (by kernel_rfl) Tryz.func84 (by kernel_rfl) rfl
theorem c85 : OkF Tryz.prog 85 f85 := .mk' (D := ⟨[(1031,2),(1033,1),(1036,2)]⟩) (by kernel_rfl) Tryz.func85 (by kernel_rfl) rfl
theorem c86 : OkF Tryz.prog 86 f86 := .mk' (D := ⟨[(0,1)]⟩) (by kernel_rfl) Tryz.func86 (by kernel_rfl) rfl
theorem c87 : OkF Tryz.prog 87 f87 := .mk' (D := ⟨[]⟩) (by kernel_rfl) Tryz.func87 (by kernel_rfl) rfl
theorem c88 : OkF Tryz.prog 88 f88 := .mk' (D := ⟨[]⟩) (by kernel_rfl) Tryz.func88 (by kernel_rfl) rfl
theorem c89 : OkF Tryz.prog 89 f89 := .mk' (D := ⟨[]⟩) (by kernel_rfl) Tryz.func89 (by kernel_rfl) rfl
theorem c90 : OkF Tryz.prog 90 f90 := .mk' (D := ⟨[(0,1),(2051,1)]⟩) (by kernel_rfl) Tryz.func90 (by kernel_rfl) rfl
theorem c91 : OkF Tryz.prog 91 f91 := .mk' (D := ⟨[(4101,2),(4103,1)]⟩) (by kernel_rfl) Tryz.func91 (by kernel_rfl) rfl
theorem c92 : OkF Tryz.prog 92 f92 := .mk' (D := ⟨[]⟩) (by kernel_rfl) Tryz.func92 (by kernel_rfl) rfl
theorem c93 : OkF Tryz.prog 93 f93 := .mk' (D := ⟨[]⟩) (by kernel_rfl) Tryz.func93 (by kernel_rfl) rfl
theorem c94 : OkF Tryz.prog 94 f94 := .mk' (D := ⟨[]⟩) (by kernel_rfl) Tryz.func94 (by kernel_rfl) rfl
theorem c97 : OkF Tryz.prog 97 f97 := .mk' (D := ⟨[]⟩) (by kernel_rfl) Tryz.func97 (by kernel_rfl) rfl
theorem c99 : OkF Tryz.prog 99 f99 := .mk' (D := ⟨[]⟩) (by kernel_rfl) Tryz.func99 (by kernel_rfl) rfl
theorem c100 : OkF Tryz.prog 100 f100 := .mk' (D := ⟨[]⟩) (by kernel_rfl) Tryz.func100 (by kernel_rfl) rfl
theorem c101 : OkF Tryz.prog 101 f101 := .mk' (D := ⟨[]⟩) (by kernel_rfl) Tryz.func101 (by kernel_rfl) rfl
theorem c102 : OkF Tryz.prog 102 f102 := .mk' (D := ⟨[]⟩) (by kernel_rfl) Tryz.func102 (by kernel_rfl) rfl
theorem c103 : OkF Tryz.prog 103 f103 := .mk' (D := ⟨[]⟩) (by kernel_rfl) Tryz.func103 (by kernel_rfl) rfl
theorem c104 : OkF Tryz.prog 104 f104 := .mk' (D := ⟨[]⟩) (by kernel_rfl) Tryz.func104 (by kernel_rfl) rfl
end Go.Abs.Run

namespace Go.Abs.Run
open Go Go.Abs Go.Proofs
theorem c105 : OkF Tryz.prog 105 f105 := .mk' (D := ⟨[]⟩) (by kernel_rfl) Tryz.func105 (by kernel_rfl) rfl
theorem c106 : OkF Tryz.prog 106 f106 := .mk' (D := ⟨[]⟩) (by kernel_rfl) Tryz.func106 (by kernel_rfl) rfl
theorem c107 : OkF Tryz.prog 107 f107 := .mk' (D := ⟨[]⟩) (by kernel_rfl) Tryz.func107 (by kernel_rfl) rfl
theorem c108 : OkF Tryz.prog 108 f108 := .mk' (D := ⟨[]⟩) (by kernel_rfl) Tryz.func108 (by kernel_rfl) rfl
theorem c109 : OkF Tryz.prog 109 f109 := .mk' (D := ⟨[]⟩) (by kernel_rfl) Tryz.func109 (by kernel_rfl) rfl
theorem c110 : OkF Tryz.prog 110 f110 := .mk' (D := ⟨[]⟩) (by kernel_rfl) Tryz.func110 (by kernel_rfl) rfl
theorem c111 : OkF Tryz.prog 111 f111 := .mk' (D := ⟨[(1024,1)]⟩) (by kernel_rfl) Tryz.func111 (by kernel_rfl) rfl
theorem c112 : OkF Tryz.prog 112 f112 := .mk' (D := ⟨[]⟩) (by kernel_rfl) Tryz.func112 (by kernel_rfl) rfl
theorem c113 : OkF Tryz.prog 113 f113 := .mk' (D := ⟨[]⟩) (by kernel_rfl) Tryz.func113 (by kernel_rfl) rfl
theorem c114 : OkF Tryz.prog 114 f114 := .mk' (D := ⟨[]⟩) (by kernel_rfl) Tryz.func114 (by kernel_rfl) rfl
theorem c115 : OkF Tryz.prog 115 f115 := .mk' (D := ⟨[]⟩) (by kernel_rfl) Tryz.func115 (by kernel_rfl) rfl
theorem c116 : OkF Tryz.prog 116 f116 := .mk' (D := ⟨[]⟩) (by kernel_rfl) Tryz.func116 (by kernel_rfl) rfl
theorem c117 : OkF Tryz.prog 117 f117 := .mk' (D := ⟨[]⟩) (by kernel_rfl) Tryz.func117 (by kernel_rfl) rfl
theorem c118 : OkF Tryz.prog 118 f118 := .mk' (D := ⟨[]⟩) (by kernel_rfl) Tryz.func118 (by kernel_rfl) rfl
theorem c119 : OkF Tryz.prog 119 f119 := .mk' (D := ⟨[]⟩) (by kernel_rfl) Tryz.func119 (by kernel_rfl) rfl
theorem c120 : OkF Tryz.prog 120 f120 := .mk' (D := ⟨[(5136,2)]⟩) (by kernel_rfl) Tryz.func120 (by kernel_rfl) rfl
theorem c121 : OkF Tryz.prog 121 f121 := .mk' (D := ⟨[]⟩) (by kernel_rfl) Tryz.func121 (by kernel_rfl) rfl
theorem c123 : OkF Tryz.prog 123 f123 := .mk' (D := ⟨[]⟩) (by kernel_rfl) Tryz.func123 (by kernel_rfl) rfl
theorem c125 : OkF Tryz.prog 125 f125 := .mk' (D := ⟨[]⟩) (by kernel_rfl) Tryz.func125 (by kernel_rfl) rfl
theorem c126 : OkF Tryz.prog 126 f126 := .mk' (D := ⟨[]⟩) (by kernel_rfl) Tryz.func126 (by kernel_rfl) rfl
theorem c127 : OkF Tryz.prog 127 f127 := .mk' (D := ⟨[(2049,1),(3073,1),(13313,1)]⟩) (by kernel_rfl) Tryz.func127 (by kernel_rfl) rfl
theorem c128 : OkF Tryz.prog 128 f128 := .mk' (D := ⟨[(6146,1)]⟩) (by kernel_rfl) Tryz.func128 (by kernel_rfl) rfl
theorem c129 : OkF Tryz.prog 129 f129 := .mk' (D := ⟨[]⟩) (by kernel_rfl) Tryz.func129 (by kernel_rfl) rfl
theorem c130 : OkF Tryz.prog 130 f130 := .mk' (D := ⟨[]⟩) (by kernel_rfl) Tryz.func130 (by kernel_rfl) rfl
theorem c131 : OkF Tryz.prog 131 f131 := .mk' (D := ⟨[]⟩) (by kernel_rfl) Tryz.func131 (by kernel_rfl) rfl
theorem c132 : OkF Tryz.prog 132 f132 := .mk' (D := ⟨[]⟩) (by kernel_rfl) Tryz.func132 (by kernel_rfl) rfl
theorem c133 : OkF Tryz.prog 133 f133 := .mk' (D := ⟨[]⟩) (by kernel_rfl) Tryz.func133 (by kernel_rfl) rfl
theorem c134 : OkF Tryz.prog 134 f134 := .mk' (D := ⟨[]⟩) (by kernel_rfl) Tryz.func134 (by kernel_rfl) rfl
theorem c135 : OkF Tryz.prog 135 f135 := .mk' (D := ⟨[]⟩) (by kernel_rfl) Tryz.func135 (by kernel_rfl) rfl
theorem c136 : OkF Tryz.prog 136 f136 := .mk' (D := ⟨[]⟩) (by kernel_rfl) Tryz.func136 (by kernel_rfl) rfl
theorem c137 : OkF Tryz.prog 137 f137 := .mk' (D := ⟨[]⟩) (by kernel_rfl) Tryz.func137 (by kernel_rfl) rfl
theorem c138 : OkF Tryz.prog 138 f138 := .mk' (D := ⟨[]⟩) (by kernel_rfl) Tryz.func138 (by kernel_rfl) rfl
theorem c139 : OkF Tryz.prog 139 f139 := .mk' (D := ⟨[(3074,2)]⟩) (by kernel_rfl) Tryz.func139 (by kernel_rfl) rfl
theorem c140 : OkF Tryz.prog 140 f140 := .mk' (D := ⟨[(3074,2)]⟩) (by kernel_rfl) Tryz.func140 (by kernel_rfl) rfl
theorem c141 : OkF Tryz.prog 141 f141 := .mk' (D := ⟨[(3074,2)]⟩) (by kernel_rfl) Tryz.func141 (by kernel_rfl) rfl
theorem c142 : OkF Tryz.prog 142 f142 := .mk' (D := ⟨[(2055,1)]⟩) (by kernel_rfl) Tryz.func142 (by kernel_rfl) rfl
theorem c143 : OkF Tryz.prog 143 f143 := .mk' (D := ⟨[]⟩) (by kernel_rfl) Tryz.func143 (by kernel_rfl) rfl
theorem c144 : OkF Tryz.prog 144 f144 := .mk' (D := ⟨[]⟩) (by kernel_rfl) Tryz.func144 (by kernel_rfl) rfl
theorem c145 : OkF Tryz.prog 145 f145 := .mk' (D := ⟨[]⟩) (by kernel_rfl) Tryz.func145 (by kernel_rfl) rfl
theorem c147 : OkF Tryz.prog 147 f147 := .mk' (D := ⟨[]⟩) (by kernel_rfl) Tryz.func147 (by kernel_rfl) rfl
theorem c148 : OkF Tryz.prog 148 f148 := .mk' (D := ⟨[]⟩) (by kernel_rfl) Tryz.func148 (by kernel_rfl) rfl
theorem c149 : OkF Tryz.prog 149 f149 := .mk' (D := ⟨[]⟩) (by kernel_rfl) Tryz.func149 (by kernel_rfl) rfl
theorem c150 : OkF Tryz.prog 150 f150 := .mk' (D := ⟨[(1028,233467579110131942535836830079193881583914913852809217)]⟩) (by kernel_rfl) Tryz.func150 (by kernel_rfl) rfl
theorem c151 : OkF Tryz.prog 151 f151 := .mk' (D := ⟨[]⟩) (by kernel_rfl) Tryz.func151 (by kernel_rfl) rfl
theorem c153 : OkF Tryz.prog 153 f153 := .mk' (D := ⟨[]⟩) (by kernel_rfl) Tryz.func153 (by kernel_rfl) rfl
theorem c154 : OkF Tryz.prog 154 f154 := .mk' (D := ⟨[(0,1)]⟩) (by kernel_rfl) Tryz.func154 (by kernel_rfl) rfl
theorem c155 : OkF Tryz.prog 155 f155 := .mk' (D := ⟨[(0,1),(2,1)]⟩) (by kernel_rfl) Tryz.func155 (by kernel_rfl) rfl
theorem c156 : OkF Tryz.prog 156 f156 := .mk' (D := ⟨[]⟩) (by kernel_rfl) Tryz.func156 (by kernel_rfl) rfl
theorem c157 : OkF Tryz.prog 157 f157 := .mk' (D := ⟨[]⟩) (by kernel_rfl) Tryz.func157 (by kernel_rfl) rfl
theorem c158 : OkF Tryz.prog 158 f158 := .mk' (D := ⟨[]⟩) (by kernel_rfl) Tryz.func158 (by kernel_rfl) rfl
end Go.Abs.Run

namespace Go.Abs.Run
open Go Go.Abs Go.Proofs
theorem c159 : OkF Tryz.prog 159 f159 := .mk' (D := ⟨[]⟩) (by kernel_rfl) Tryz.func159 (by kernel_rfl) rfl
theorem c161 : OkF Tryz.prog 161 f161 := .mk' (D := ⟨[]⟩) (by kernel_rfl) Tryz.func161 (by kernel_rfl) rfl
theorem c162 : OkF Tryz.prog 162 f162 := .mk' (D := ⟨[]⟩) (by kernel_rfl) Tryz.func162 (by kernel_rfl) rfl
theorem c163 : OkF Tryz.prog 163 f163 := .mk' (D := ⟨[]⟩) (by kernel_rfl) Tryz.func163 (by kernel_rfl) rfl
theorem c164 : OkF Tryz.prog 164 f164 := .mk' (D := ⟨[]⟩) (by kernel_rfl) Tryz.func164 (by kernel_rfl) rfl
theorem c165 : OkF Tryz.prog 165 f165 := .mk' (D := ⟨[]⟩) (by kernel_rfl) Tryz.func165 (by kernel_rfl) rfl
theorem c166 : OkF Tryz.prog 166 f166 := .mk' (D := ⟨[]⟩) (by kernel_rfl) Tryz.func166 (by kernel_rfl) rfl
theorem c169 : OkF Tryz.prog 169 f169 := .mk' (D := ⟨[]⟩) (by kernel_rfl) Tryz.func169 (by kernel_rfl) rfl
theorem c171 : OkF Tryz.prog 171 f171 := .mk' (D := ⟨[]⟩) (by kernel_rfl) Tryz.func171 (by kernel_rfl) rfl
theorem c172 : OkF Tryz.prog 172 f172 := .mk' (D := ⟨[]⟩) (by kernel_rfl) Tryz.func172 (by kernel_rfl) rfl
theorem c173 : OkF Tryz.prog 173 f173 := .mk' (D := ⟨[]⟩) (by kernel_rfl) Tryz.func173 (by kernel_rfl) rfl
theorem c174 : OkF Tryz.prog 174 f174 := .mk' (D := ⟨[]⟩) (by kernel_rfl) Tryz.func174 (by kernel_rfl) rfl
theorem c175 : OkF Tryz.prog 175 f175 := .mk' (D := ⟨[]⟩) (by kernel_rfl) Tryz.func175 (by kernel_rfl) rfl
theorem c176 : OkF Tryz.prog 176 f176 := .mk' (D := ⟨[(5125,2)]⟩) (by kernel_rfl) Tryz.func176 (by kernel_rfl) rfl
theorem c177 : OkF Tryz.prog 177 f177 := .mk' (D := ⟨[]⟩) (by kernel_rfl) Tryz.func177 (by kernel_rfl) rfl
theorem c178 : OkF Tryz.prog 178 f178 := .mk' (D := ⟨[]⟩) (by kernel_rfl) Tryz.func178 (by kernel_rfl) rfl
theorem c180 : OkF Tryz.prog 180 f180 := .mk' (D := ⟨[]⟩) (by kernel_rfl) Tryz.func180 (by kernel_rfl) rfl
theorem c181 : OkF Tryz.prog 181 f181 := .mk' (D := ⟨[]⟩) (by kernel_rfl) Tryz.func181 (by kernel_rfl) rfl
theorem c182 : OkF Tryz.prog 182 f182 := .mk' (D := ⟨[]⟩) (by kernel_rfl) Tryz.func182 (by kernel_rfl) rfl
theorem c183 : OkF Tryz.prog 183 f183 := .mk' (D := ⟨[]⟩) (by kernel_rfl) Tryz.func183 (by kernel_rfl) rfl
theorem c184 : OkF Tryz.prog 184 f184 := .mk' (D := ⟨[]⟩) (by kernel_rfl) Tryz.func184 (by kernel_rfl) rfl
theorem c185 : OkF Tryz.prog 185 f185 := .mk' (D := ⟨[]⟩) (by kernel_rfl) Tryz.func185 (by kernel_rfl) rfl
theorem c186 : OkF Tryz.prog 186 f186 := .mk' (D := ⟨[]⟩) (by kernel_rfl) Tryz.func186 (by kernel_rfl) rfl
theorem c187 : OkF Tryz.prog 187 f187 := .mk' (D := ⟨[]⟩) (by kernel_rfl) Tryz.func187 (by kernel_rfl) rfl
theorem c188 : OkF Tryz.prog 188 f188 := .mk' (D := ⟨[]⟩) (by kernel_rfl) Tryz.func188 (by kernel_rfl) rfl
theorem c189 : OkF Tryz.prog 189 f189 := .mk' (D := ⟨[]⟩) (by kernel_rfl) Tryz.func189 (by kernel_rfl) rfl
theorem c190 : OkF Tryz.prog 190 f190 := .mk' (D := ⟨[]⟩) (by kernel_rfl) Tryz.func190 (by kernel_rfl) rfl
theorem c191 : OkF Tryz.prog 191 f191 := .mk' (D := ⟨[]⟩) (by kernel_rfl) Tryz.func191 (by kernel_rfl) rfl
theorem c192 : OkF Tryz.prog 192 f192 := .mk' (D := ⟨[]⟩) (by kernel_rfl) Tryz.func192 (by kernel_rfl) rfl
theorem c193 : OkF Tryz.prog 193 f193 := .mk' (D := ⟨[]⟩) (by kernel_rfl) Tryz.func193 (by kernel_rfl) rfl
theorem c194 : OkF Tryz.prog 194 f194 := .mk' (D := ⟨[]⟩) (by kernel_rfl) Tryz.func194 (by kernel_rfl) rfl
theorem c195 : OkF Tryz.prog 195 f195 := .mk' (D := ⟨[]⟩) (by kernel_rfl) Tryz.func195 (by kernel_rfl) rfl
theorem c196 : OkF Tryz.prog 196 f196 := .mk' (D := ⟨[]⟩) (by kernel_rfl) Tryz.func196 (by kernel_rfl) rfl
theorem c197 : OkF Tryz.prog 197 f197 := .mk' (D := ⟨[]⟩) (by kernel_rfl) Tryz.func197 (by kernel_rfl) rfl
theorem c198 : OkF Tryz.prog 198 f198 := .mk' (D := ⟨[(11267,1)]⟩) (by kernel_rfl) Tryz.func198 (by kernel_rfl) rfl
theorem c199 : OkF Tryz.prog 199 f199 := .mk' (D := ⟨[]⟩) (by kernel_rfl) Tryz.func199 (by kernel_rfl) rfl
theorem c200 : OkF Tryz.prog 200 f200 := .mk' (D := ⟨[]⟩) (by kernel_rfl) Tryz.func200 (by kernel_rfl) rfl
theorem c201 : OkF Tryz.prog 201 f201 := .mk' (D := ⟨[(1029,1)]⟩) (by kernel_rfl) Tryz.func201 (by kernel_rfl) rfl
theorem c202 : OkF Tryz.prog 202 f202 := .mk' (D := ⟨[]⟩) (by kernel_rfl) Tryz.func202 (by kernel_rfl) rfl
theorem c203 : OkF Tryz.prog 203 f203 := .mk' (D := ⟨[(0,1)]⟩) (by kernel_rfl) Tryz.func203 (by kernel_rfl) rfl
theorem c204 : OkF Tryz.prog 204 f204 := .mk' (D := ⟨[]⟩) (by kernel_rfl) Tryz.func204 (by kernel_rfl) rfl
theorem c210 : OkF Tryz.prog 210 f210 := .mk' (D := ⟨[]⟩) (by kernel_rfl) Tryz.func210 (by kernel_rfl) rfl
theorem c214 : OkF Tryz.prog 214 f214 := .mk' (D := ⟨[]⟩) (by kernel_rfl) Tryz.func214 (by kernel_rfl) rfl
theorem c216 : OkF Tryz.prog 216 f216 := .mk' (D := ⟨[]⟩) (by kernel_rfl) Tryz.func216 (by kernel_rfl) rfl
theorem c217 : OkF Tryz.prog 217 f217 := .mk' (D := ⟨[]⟩) (by kernel_rfl) Tryz.func217 (by kernel_rfl) rfl
theorem c218 : OkF Tryz.prog 218 f218 := .mk' (D := ⟨[(1032,1)]⟩) (by kernel_rfl) Tryz.func218 (by kernel_rfl) rfl
theorem c219 : OkF Tryz.prog 219 f219 := .mk' (D := ⟨[(0,1)]⟩) (by kernel_rfl) Tryz.func219 (by kernel_rfl) rfl
theorem c220 : OkF Tryz.prog 220 f220 := .mk' (D := ⟨[]⟩) (by kernel_rfl) Tryz.func220 (by kernel_rfl) rfl
theorem c221 : OkF Tryz.prog 221 f221 := .mk' (D := ⟨[]⟩) (by kernel_rfl) Tryz.func221 (by kernel_rfl) rfl
end Go.Abs.Run

namespace Go.Abs.Run
open Go Go.Abs Go.Proofs
theorem c222 : OkF Tryz.prog 222 f222 := .mk' (D := ⟨[]⟩) (by kernel_rfl) Tryz.func222 (by kernel_rfl) rfl
theorem c223 : OkF Tryz.prog 223 f223 := .mk' (D := ⟨[]⟩) (by kernel_rfl) Tryz.func223 (by kernel_rfl) rfl
theorem c224 : OkF Tryz.prog 224 f224 := .mk' (D := ⟨[]⟩) (by kernel_rfl) Tryz.func224 (by kernel_rfl) rfl
theorem c226 : OkF Tryz.prog 226 f226 := .mk' (D := ⟨[]⟩) (by kernel_rfl) Tryz.func226 (by kernel_rfl) rfl
theorem c227 : OkF Tryz.prog 227 f227 := .mk' (D := ⟨[]⟩) (by kernel_rfl) Tryz.func227 (by kernel_rfl) rfl
theorem c228 : OkF Tryz.prog 228 f228 := .mk' (D := ⟨[]⟩) (by kernel_rfl) Tryz.func228 (by kernel_rfl) rfl
theorem c229 : OkF Tryz.prog 229 f229 := .mk' (D := ⟨[]⟩) (by kernel_rfl) Tryz.func229 (by kernel_rfl) rfl
theorem c230 : OkF Tryz.prog 230 f230 := .mk' (D := ⟨[]⟩) (by kernel_rfl) Tryz.func230 (by kernel_rfl) rfl
theorem c231 : OkF Tryz.prog 231 f231 := .mk' (D := ⟨[]⟩) (by kernel_rfl) Tryz.func231 (by kernel_rfl) rfl
theorem c232 : OkF Tryz.prog 232 f232 := .mk' (D := ⟨[]⟩) (by kernel_rfl) Tryz.func232 (by kernel_rfl) rfl
theorem c233 : OkF Tryz.prog 233 f233 := .mk' (D := ⟨[]⟩) (by kernel_rfl) Tryz.func233 (by kernel_rfl) rfl
theorem c235 : OkF Tryz.prog 235 f235 := .mk' (D := ⟨[]⟩) (by kernel_rfl) Tryz.func235 (by kernel_rfl) rfl
theorem c243 : OkF Tryz.prog 243 f243 := .mk' (D := ⟨[]⟩) (by kernel_rfl) Tryz.func243 (by kernel_rfl) rfl
theorem c251 : OkF Tryz.prog 251 f251 := .mk' (D := ⟨[]⟩) (by kernel_rfl) Tryz.func251 (by kernel_rfl) rfl
theorem c253 : OkF Tryz.prog 253 f253 := .mk' (D := ⟨[]⟩) (by kernel_rfl) Tryz.func253 (by kernel_rfl) rfl
theorem c254 : OkF Tryz.prog 254 f254 := .mk' (D := ⟨[]⟩) (by kernel_rfl) Tryz.func254 (by kernel_rfl) rfl
theorem c255 : OkF Tryz.prog 255 f255 := .mk' (D := ⟨[]⟩) (by kernel_rfl) Tryz.func255 (by kernel_rfl) rfl
theorem c258 : OkF Tryz.prog 258 f258 := .mk' (D := ⟨[]⟩) (by kernel_rfl) Tryz.func258 (by kernel_rfl) rfl
theorem c259 : OkF Tryz.prog 259 f259 := .mk' (D := ⟨[]⟩) (by kernel_rfl) Tryz.func259 (by kernel_rfl) rfl
theorem c260 : OkF Tryz.prog 260 f260 := .mk' (D := ⟨[(2071,2),(3074,1)]⟩) (by kernel_rfl) Tryz.func260 (by kernel_rfl) rfl
theorem c261 : OkF Tryz.prog 261 f261 := .mk' (D := ⟨[]⟩) (by kernel_rfl) Tryz.func261 (by kernel_rfl) rfl
theorem c267 : OkF Tryz.prog 267 f267 := .mk' (D := ⟨[]⟩) (by kernel_rfl) Tryz.func267 (by kernel_rfl) rfl
theorem c268 : OkF Tryz.prog 268 f268 := .mk' (D := ⟨[]⟩) (by kernel_rfl) Tryz.func268 (by kernel_rfl) rfl
theorem c271 : OkF Tryz.prog 271 f271 := .mk' (D := ⟨[]⟩) (by kernel_rfl) Tryz.func271 (by kernel_rfl) rfl
theorem c272 : OkF Tryz.prog 272 f272 := .mk' (D := ⟨[]⟩) (by kernel_rfl) Tryz.func272 (by kernel_rfl) rfl
theorem c273 : OkF Tryz.prog 273 f273 := .mk' (D := ⟨[(0,1),(1,1),(1033,1),(4108,1)]⟩) (by kernel_rfl) Tryz.func273 (by kernel_rfl) rfl
theorem c274 : OkF Tryz.prog 274 f274 := .mk' (D := ⟨[]⟩) (by kernel_rfl) Tryz.func274 (by kernel_rfl) rfl
theorem c275 : OkF Tryz.prog 275 f275 := .mk' (D := ⟨[]⟩) (by kernel_rfl) Tryz.func275 (by kernel_rfl) rfl
theorem c276 : OkF Tryz.prog 276 f276 := .mk' (D := ⟨[]⟩) (by kernel_rfl) Tryz.func276 (by kernel_rfl) rfl
theorem c277 : OkF Tryz.prog 277 f277 := .mk' (D := ⟨[(2053,1)]⟩) (by kernel_rfl) Tryz.func277 (by kernel_rfl) rfl
theorem c278 : OkF Tryz.prog 278 f278 := .mk' (D := ⟨[]⟩) (by kernel_rfl) Tryz.func278 (by kernel_rfl) rfl
theorem c279 : OkF Tryz.prog 279 f279 := .mk' (D := ⟨[]⟩) (by kernel_rfl) Tryz.func279 (by kernel_rfl) rfl
theorem c280 : OkF Tryz.prog 280 f280 := .mk' (D := ⟨[]⟩) (by kernel_rfl) Tryz.func280 (by kernel_rfl) rfl
theorem c281 : OkF Tryz.prog 281 f281 := .mk' (D := ⟨[]⟩) (by kernel_rfl) Tryz.func281 (by kernel_rfl) rfl
theorem c282 : OkF Tryz.prog 282 f282 := .mk' (D := ⟨[]⟩) (by kernel_rfl) Tryz.func282 (by kernel_rfl) rfl
theorem c283 : OkF Tryz.prog 283 f283 := .mk' (D := ⟨[]⟩) (by kernel_rfl) Tryz.func283 (by kernel_rfl) rfl
theorem c284 : OkF Tryz.prog 284 f284 := .mk' (D := ⟨[]⟩) (by kernel_rfl) Tryz.func284 (by kernel_rfl) rfl
theorem c285 : OkF Tryz.prog 285 f285 := .mk' (D := ⟨[]⟩) (by kernel_rfl) Tryz.func285 (by kernel_rfl) rfl
theorem c286 : OkF Tryz.prog 286 f286 := .mk' (D := ⟨[]⟩) (by kernel_rfl) Tryz.func286 (by kernel_rfl) rfl
theorem c293 : OkF Tryz.prog 293 f293 := .mk' (D := ⟨[]⟩) (by kernel_rfl) Tryz.func293 (by kernel_rfl) rfl
theorem c294 : OkF Tryz.prog 294 f294 := .mk' (D := ⟨[]⟩) (by kernel_rfl) Tryz.func294 (by kernel_rfl) rfl
theorem c295 : OkF Tryz.prog 295 f295 := .mk' (D := ⟨[]⟩) (by kernel_rfl) Tryz.func295 (by kernel_rfl) rfl
end Go.Abs.Run

namespace Go.Abs.Run
open Go Go.Abs Go.Proofs
theorem c296 : OkF Tryz.prog 296 f296 := .mk' (D := ⟨[]⟩) (by kernel_rfl) Tryz.func296 (by kernel_rfl) rfl
theorem c298 : OkF Tryz.prog 298 f298 := .mk' (D := ⟨[]⟩) (by kernel_rfl) Tryz.func298 (by kernel_rfl) rfl
theorem c299 : OkF Tryz.prog 299 f299 := .mk' (D := ⟨[]⟩) (by kernel_rfl) Tryz.func299 (by kernel_rfl) rfl
theorem c300 : OkF Tryz.prog 300 f300 := .mk' (D := ⟨[]⟩) (by kernel_rfl) Tryz.func300 (by kernel_rfl) rfl
theorem c301 : OkF Tryz.prog 301 f301 := .mk' (D := ⟨[]⟩) (by kernel_rfl) Tryz.func301 (by kernel_rfl) rfl
theorem c302 : OkF Tryz.prog 302 f302 := .mk' (D := ⟨[]⟩) (by kernel_rfl) Tryz.func302 (by kernel_rfl) rfl
theorem c306 : OkF Tryz.prog 306 f306 := .mk' (D := ⟨[]⟩) (by kernel_rfl) Tryz.func306 (by kernel_rfl) rfl
theorem c309 : OkF Tryz.prog 309 f309 := .mk' (D := ⟨[(7172,1)]⟩) (by kernel_rfl) Tryz.func309 (by kernel_rfl) rfl
theorem c310 : OkF Tryz.prog 310 f310 := .mk' (D := ⟨[(0,1)]⟩) (by kernel_rfl) Tryz.func310 (by kernel_rfl) rfl
theorem c311 : OkF Tryz.prog 311 f311 := .mk' (D := ⟨[(0,1),(8195,1)]⟩) (by kernel_rfl) Tryz.func311 (by kernel_rfl) rfl
theorem c312 : OkF Tryz.prog 312 f312 := .mk' (D := ⟨[(7170,2),(9224,2)]⟩) (by kernel_rfl) Tryz.func312 (by kernel_rfl) rfl
theorem c313 : OkF Tryz.prog 313 f313 := .mk' (D := ⟨[(3072,1)]⟩) (by kernel_rfl) Tryz.func313 (by kernel_rfl) rfl
theorem c314 : OkF Tryz.prog 314 f314 := .mk' (D := ⟨[]⟩) (by kernel_rfl) Tryz.func314 (by kernel_rfl) rfl
theorem c315 : OkF Tryz.prog 315 f315 := .mk' (D := ⟨[]⟩) (by kernel_rfl) Tryz.func315 (by kernel_rfl) rfl
theorem c316 : OkF Tryz.prog 316 f316 := .mk' (D := ⟨[]⟩) (by kernel_rfl) Tryz.func316 (by kernel_rfl) rfl
theorem c317 : OkF Tryz.prog 317 f317 := .mk' (D := ⟨[]⟩) (by kernel_rfl) Tryz.func317 (by kernel_rfl) rfl
theorem c319 : OkF Tryz.prog 319 f319 := .mk' (D := ⟨[]⟩) (by kernel_rfl) Tryz.func319 (by kernel_rfl) rfl
theorem c320 : OkF Tryz.prog 320 f320 := .mk' (D := ⟨[]⟩) (by kernel_rfl) Tryz.func320 (by kernel_rfl) rfl
theorem c321 : OkF Tryz.prog 321 f321 := .mk' (D := ⟨[]⟩) (by kernel_rfl) Tryz.func321 (by kernel_rfl) rfl
theorem c327 : OkF Tryz.prog 327 f327 := .mk' (D := ⟨[]⟩) (by kernel_rfl) Tryz.func327 (by kernel_rfl) rfl
theorem c336 : OkF Tryz.prog 336 f336 := .mk' (D := ⟨[]⟩) (by kernel_rfl) Tryz.func336 (by kernel_rfl) rfl
theorem c337 : OkF Tryz.prog 337 f337 := .mk' (D := ⟨[]⟩) (by kernel_rfl) Tryz.func337 (by kernel_rfl) rfl
theorem c338 : OkF Tryz.prog 338 f338 := .mk' (D := ⟨[]⟩) (by kernel_rfl) Tryz.func338 (by kernel_rfl) rfl
theorem c339 : OkF Tryz.prog 339 f339 := .mk' (D := ⟨[]⟩) (by kernel_rfl) Tryz.func339 (by kernel_rfl) rfl
theorem c340 : OkF Tryz.prog 340 f340 := .mk' (D := ⟨[]⟩) (by kernel_rfl) Tryz.func340 (by kernel_rfl) rfl
theorem c341 : OkF Tryz.prog 341 f341 := .mk' (D := ⟨[]⟩) (by kernel_rfl) Tryz.func341 (by kernel_rfl) rfl
theorem c347 : OkF Tryz.prog 347 f347 := .mk' (D := ⟨[]⟩) (by kernel_rfl) Tryz.func347 (by kernel_rfl) rfl
theorem c348 : OkF Tryz.prog 348 f348 := .mk' (D := ⟨[]⟩) (by kernel_rfl) Tryz.func348 (by kernel_rfl) rfl
theorem c349 : OkF Tryz.prog 349 f349 := .mk' (D := ⟨[]⟩) (by kernel_rfl) Tryz.func349 (by kernel_rfl) rfl
theorem c350 : OkF Tryz.prog 350 f350 := .mk' (D := ⟨[]⟩) (by kernel_rfl) Tryz.func350 (by kernel_rfl) rfl
theorem c351 : OkF Tryz.prog 351 f351 := .mk' (D := ⟨[]⟩) (by kernel_rfl) Tryz.func351 (by kernel_rfl) rfl
theorem c354 : OkF Tryz.prog 354 f354 := .mk' (D := ⟨[]⟩) (by kernel_rfl) Tryz.func354 (by kernel_rfl) rfl
theorem c355 : OkF Tryz.prog 355 f355 := .mk' (D := ⟨[]⟩) (by kernel_rfl) Tryz.func355 (by kernel_rfl) rfl
theorem c356 : OkF Tryz.prog 356 f356 := .mk' (D := ⟨[]⟩) (by kernel_rfl) Tryz.func356 (by kernel_rfl) rfl
theorem c357 : OkF Tryz.prog 357 f357 := .mk' (D := ⟨[]⟩) (by kernel_rfl) Tryz.func357 (by kernel_rfl) rfl
theorem c358 : OkF Tryz.prog 358 f358 := .mk' (D := ⟨[]⟩) (by kernel_rfl) Tryz.func358 (by kernel_rfl) rfl
theorem c359 : OkF Tryz.prog 359 f359 := .mk' (D := ⟨[]⟩) (by kernel_rfl) Tryz.func359 (by kernel_rfl) rfl
theorem c360 : OkF Tryz.prog 360 f360 := .mk' (D := ⟨[]⟩) (by kernel_rfl) Tryz.func360 (by kernel_rfl) rfl
theorem c366 : OkF Tryz.prog 366 f366 := .mk' (D := ⟨[]⟩) (by kernel_rfl) Tryz.func366 (by kernel_rfl) rfl
theorem c367 : OkF Tryz.prog 367 f367 := .mk' (D := ⟨[]⟩) (by kernel_rfl) Tryz.func367 (by kernel_rfl) rfl
theorem c368 : OkF Tryz.prog 368 f368 := .mk' (D := ⟨[]⟩) (by kernel_rfl) Tryz.func368 (by kernel_rfl) rfl
end Go.Abs.Run

namespace Go.Abs.Run
open Go Go.Abs Go.Proofs
theorem c369 : OkF Tryz.prog 369 f369 := .mk' (D := ⟨[]⟩) (by kernel_rfl) Tryz.func369 (by kernel_rfl) rfl
theorem c370 : OkF Tryz.prog 370 f370 := .mk' (D := ⟨[]⟩) (by kernel_rfl) Tryz.func370 (by kernel_rfl) rfl
theorem c371 : OkF Tryz.prog 371 f371 := .mk' (D := ⟨[]⟩) (by kernel_rfl) Tryz.func371 (by kernel_rfl) rfl
theorem c373 : OkF Tryz.prog 373 f373 := .mk' (D := ⟨[]⟩) (by kernel_rfl) Tryz.func373 (by kernel_rfl) rfl
theorem c376 : OkF Tryz.prog 376 f376 := .mk' (D := ⟨[]⟩) (by kernel_rfl) Tryz.func376 (by kernel_rfl) rfl
theorem c382 : OkF Tryz.prog 382 f382 := .mk' (D := ⟨[]⟩) (by kernel_rfl) Tryz.func382 (by kernel_rfl) rfl
theorem c383 : OkF Tryz.prog 383 f383 := .mk' (D := ⟨[]⟩) (by kernel_rfl) Tryz.func383 (by kernel_rfl) rfl
theorem c384 : OkF Tryz.prog 384 f384 := .mk' (D := ⟨[(7178,2)]⟩) (by kernel_rfl) Tryz.func384 (by kernel_rfl) rfl
theorem c385 : OkF Tryz.prog 385 f385 := .mk' (D := ⟨[]⟩) (by kernel_rfl) Tryz.func385 (by kernel_rfl) rfl
theorem c386 : OkF Tryz.prog 386 f386 := .mk' (D := ⟨[]⟩) (by kernel_rfl) Tryz.func386 (by kernel_rfl) rfl
theorem c387 : OkF Tryz.prog 387 f387 := .mk' (D := ⟨[]⟩) (by kernel_rfl) Tryz.func387 (by kernel_rfl) rfl
theorem c389 : OkF Tryz.prog 389 f389 := .mk' (D := ⟨[]⟩) (by kernel_rfl) Tryz.func389 (by kernel_rfl) rfl
theorem c390 : OkF Tryz.prog 390 f390 := .mk' (D := ⟨[]⟩) (by kernel_rfl) Tryz.func390 (by kernel_rfl) rfl
theorem c392 : OkF Tryz.prog 392 f392 := .mk' (D := ⟨[]⟩) (by kernel_rfl) Tryz.func392 (by kernel_rfl) rfl
theorem c394 : OkF Tryz.prog 394 f394 := .mk' (D := ⟨[]⟩) (by kernel_rfl) Tryz.func394 (by kernel_rfl) rfl
theorem c396 : OkF Tryz.prog 396 f396 := .mk' (D := ⟨[]⟩) (by kernel_rfl) Tryz.func396 (by kernel_rfl) rfl
theorem c397 : OkF Tryz.prog 397 f397 := .mk' (D := ⟨[]⟩) (by kernel_rfl) Tryz.func397 (by kernel_rfl) rfl
theorem c398 : OkF Tryz.prog 398 f398 := .mk' (D := ⟨[]⟩) (by kernel_rfl) Tryz.func398 (by kernel_rfl) rfl
theorem c399 : OkF Tryz.prog 399 f399 := .mk' (D := ⟨[]⟩) (by kernel_rfl) Tryz.func399 (by kernel_rfl) rfl
theorem c401 : OkF Tryz.prog 401 f401 := .mk' (D := ⟨[(14337,1)]⟩) (by kernel_rfl) Tryz.func401 (by kernel_rfl) rfl
theorem c404 : OkF Tryz.prog 404 f404 := .mk' (D := ⟨[]⟩) (by kernel_rfl) Tryz.func404 (by kernel_rfl) rfl
theorem c405 : OkF Tryz.prog 405 f405 := .mk' (D := ⟨[]⟩) (by kernel_rfl) Tryz.func405 (by kernel_rfl) rfl
theorem c406 : OkF Tryz.prog 406 f406 := .mk' (D := ⟨[]⟩) (by kernel_rfl) Tryz.func406 (by kernel_rfl) rfl
theorem c407 : OkF Tryz.prog 407 f407 := .mk' (D := ⟨[]⟩) (by kernel_rfl) Tryz.func407 (by kernel_rfl) rfl
theorem c408 : OkF Tryz.prog 408 f408 := .mk' (D := ⟨[]⟩) (by kernel_rfl) Tryz.func408 (by kernel_rfl) rfl
end Go.Abs.Run

