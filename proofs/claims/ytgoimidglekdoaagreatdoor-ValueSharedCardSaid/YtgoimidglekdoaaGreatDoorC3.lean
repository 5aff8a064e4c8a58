/- Proved on the way to: ValueShared returns true whatever the memory, its listed package variables reading as the program's text lays them. -/
import Derived.Test.YtgoimidglekdoaaGreatDoorC1
import Derived.Test.YtgoimidglekdoaaGreatDoorB3
import Derived.KernelRfl
import Derived.Test.YtgoimidglekdoaaGreatDoorC2
set_option autoImplicit false
set_option linter.unusedSectionVars false
set_option linter.unusedSimpArgs false
set_option linter.unusedVariables false
namespace Go.Abs.Run
open Go Go.Abs Go.Proofs
theorem c3 : OkF Tryz.prog 3 f3 := .mk' (D := ⟨[(22528,3)]⟩) (by kernel_rfl) Tryz.func3 (by kernel_rfl) rfl
theorem c5 : OkF Tryz.prog 5 f5 := .mk' (D := ⟨[]⟩) (by kernel_rfl) Tryz.func5 (by kernel_rfl) rfl
theorem c7 : OkF Tryz.prog 7 f7 := .mk' (D := ⟨[]⟩) (by kernel_rfl) Tryz.func7 (by kernel_rfl) rfl
theorem c8 : OkF Tryz.prog 8 f8 := .mk' (D := ⟨[]⟩) (by kernel_rfl) Tryz.func8 (by kernel_rfl) rfl
theorem c9 : OkF Tryz.prog 9 f9 := .mk' (D := ⟨[]⟩) (by kernel_rfl) Tryz.func9 (by kernel_rfl) rfl
theorem c10 : OkF Tryz.prog 10 f10 := .mk' (D := ⟨[]⟩) (by kernel_rfl) Tryz.func10 (by kernel_rfl) rfl
theorem c11 : OkF Tryz.prog 11 f11 := .mk' (D := ⟨[]⟩) (by kernel_rfl) Tryz.func11 (by kernel_rfl) rfl
theorem c12 : OkF Tryz.prog 12 f12 := .mk' (D := ⟨[]⟩) (by kernel_rfl) Tryz.func12 (by kernel_rfl) rfl
theorem c13 : OkF Tryz.prog 13 f13 := .mk' (D := ⟨[]⟩) (by kernel_rfl) Tryz.func13 (by kernel_rfl) rfl
theorem c14 : OkF Tryz.prog 14 f14 := .mk' (D := ⟨[]⟩) (by kernel_rfl) Tryz.func14 (by kernel_rfl) rfl
theorem c15 : OkF Tryz.prog 15 f15 := .mk' (D := ⟨[]⟩) (by kernel_rfl) Tryz.func15 (by kernel_rfl) rfl
theorem c16 : OkF Tryz.prog 16 f16 := .mk' (D := ⟨[]⟩) (by kernel_rfl) Tryz.func16 (by kernel_rfl) rfl
theorem c20 : OkF Tryz.prog 20 f20 := .mk' (D := ⟨[]⟩) (by kernel_rfl) Tryz.func20 (by kernel_rfl) rfl
theorem c21 : OkF Tryz.prog 21 f21 := .mk' (D := ⟨[]⟩) (by kernel_rfl) Tryz.func21 (by kernel_rfl) rfl
theorem c22 : OkF Tryz.prog 22 f22 := .mk' (D := ⟨[(2054,1)]⟩) (by kernel_rfl) Tryz.func22 (by kernel_rfl) rfl
theorem c23 : OkF Tryz.prog 23 f23 := .mk' (D := ⟨[]⟩) (by kernel_rfl) Tryz.func23 (by kernel_rfl) rfl
theorem c24 : OkF Tryz.prog 24 f24 := .mk' (D := ⟨[]⟩) (by kernel_rfl) Tryz.func24 (by kernel_rfl) rfl
theorem c27 : OkF Tryz.prog 27 f27 := .mk' (D := ⟨[]⟩) (by kernel_rfl) Tryz.func27 (by kernel_rfl) rfl
theorem c28 : OkF Tryz.prog 28 f28 := .mk' (D := ⟨[(9217,1),(24588,2),(32786,2)]⟩) (by kernel_rfl) Tryz.func28 (by kernel_rfl) rfl
theorem c29 : OkF Tryz.prog 29 f29 := .mk' (D := ⟨[(1027,1)]⟩) (by kernel_rfl) Tryz.func29 (by kernel_rfl) rfl
theorem c30 : OkF Tryz.prog 30 f30 := .mk' (D := ⟨[]⟩) (by kernel_rfl) Tryz.func30 (by kernel_rfl) rfl
theorem c31 : OkF Tryz.prog 31 f31 := .mk' (D := ⟨[]⟩) (by kernel_rfl) Tryz.func31 (by kernel_rfl) rfl
theorem c32 : OkF Tryz.prog 32 f32 := .mk' (D := ⟨[(18437,2),(18439,1)]⟩) (by kernel_rfl) Tryz.func32 (by kernel_rfl) rfl
theorem c33 : OkF Tryz.prog 33 f33 := .mk' (D := ⟨[(1027,1),(3079,1)]⟩) (by kernel_rfl) Tryz.func33 (by kernel_rfl) rfl
theorem c34 : OkF Tryz.prog 34 f34 := .mk' (D := ⟨[]⟩) (by kernel_rfl) Tryz.func34 (by kernel_rfl) rfl
theorem c35 : OkF Tryz.prog 35 f35 := .mk' (D := ⟨[]⟩) (by kernel_rfl) Tryz.func35 (by kernel_rfl) rfl
theorem c36 : OkF Tryz.prog 36 f36 := .mk' (D := ⟨[]⟩) (by kernel_rfl) Tryz.func36 (by kernel_rfl) rfl
theorem c37 : OkF Tryz.prog 37 f37 := .mk' (D := ⟨[(1026,1)]⟩) (by kernel_rfl) Tryz.func37 (by kernel_rfl) rfl
theorem c38 : OkF Tryz.prog 38 f38 := .mk' (D := ⟨[]⟩) (by kernel_rfl) Tryz.func38 (by kernel_rfl) rfl
theorem c39 : OkF Tryz.prog 39 f39 := .mk' (D := ⟨[]⟩) (by kernel_rfl) Tryz.func39 (by kernel_rfl) rfl
theorem c40 : OkF Tryz.prog 40 f40 := .mk' (D := ⟨[]⟩) (by kernel_rfl) Tryz.func40 (by kernel_rfl) rfl
theorem c41 : OkF Tryz.prog 41 f41 := .mk' (D := ⟨[]⟩) (by kernel_rfl) Tryz.func41 (by kernel_rfl) rfl
end Go.Abs.Run
namespace Go.Abs.Run
open Go Go.Abs Go.Proofs
theorem c42 : OkF Tryz.prog 42 f42 := .mk' (D := ⟨[]⟩) (by kernel_rfl) Tryz.func42 (by kernel_rfl) rfl
theorem c43 : OkF Tryz.prog 43 f43 := .mk' (D := ⟨[]⟩) (by kernel_rfl) Tryz.func43 (by kernel_rfl) rfl
theorem c44 : OkF Tryz.prog 44 f44 := .mk' (D := ⟨[]⟩) (by kernel_rfl) Tryz.func44 (by kernel_rfl) rfl
theorem c45 : OkF Tryz.prog 45 f45 := .mk' (D := ⟨[]⟩) (by kernel_rfl) Tryz.func45 (by kernel_rfl) rfl
theorem c46 : OkF Tryz.prog 46 f46 := .mk' (D := ⟨[]⟩) (by kernel_rfl) Tryz.func46 (by kernel_rfl) rfl
theorem c47 : OkF Tryz.prog 47 f47 := .mk' (D := ⟨[]⟩) (by kernel_rfl) Tryz.func47 (by kernel_rfl) rfl
theorem c48 : OkF Tryz.prog 48 f48 := .mk' (D := ⟨[]⟩) (by kernel_rfl) Tryz.func48 (by kernel_rfl) rfl
theorem c50 : OkF Tryz.prog 50 f50 := .mk' (D := ⟨[]⟩) (by kernel_rfl) Tryz.func50 (by kernel_rfl) rfl
theorem c51 : OkF Tryz.prog 51 f51 := .mk' (D := ⟨[(1024,1)]⟩) (by kernel_rfl) Tryz.func51 (by kernel_rfl) rfl
theorem c52 : OkF Tryz.prog 52 f52 := .mk' (D := ⟨[]⟩) (by kernel_rfl) Tryz.func52 (by kernel_rfl) rfl
theorem c53 : OkF Tryz.prog 53 f53 := .mk' (D := ⟨[]⟩) (by kernel_rfl) Tryz.func53 (by kernel_rfl) rfl
theorem c54 : OkF Tryz.prog 54 f54 := .mk' (D := ⟨[]⟩) (by kernel_rfl) Tryz.func54 (by kernel_rfl) rfl
theorem c55 : OkF Tryz.prog 55 f55 := .mk' (D := ⟨[]⟩) (by kernel_rfl) Tryz.func55 (by kernel_rfl) rfl
theorem c56 : OkF Tryz.prog 56 f56 := .mk' (D := ⟨[]⟩) (by kernel_rfl) Tryz.func56 (by kernel_rfl) rfl
theorem c57 : OkF Tryz.prog 57 f57 := .mk' (D := ⟨[]⟩) (by kernel_rfl) Tryz.func57 (by kernel_rfl) rfl
theorem c59 : OkF Tryz.prog 59 f59 := .mk' (D := ⟨[]⟩) (by kernel_rfl) Tryz.func59 (by kernel_rfl) rfl
theorem c60 : OkF Tryz.prog 60 f60 := .mk' (D := ⟨[(5136,2)]⟩) (by kernel_rfl) Tryz.func60 (by kernel_rfl) rfl
theorem c61 : OkF Tryz.prog 61 f61 := .mk' (D := ⟨[]⟩) (by kernel_rfl) Tryz.func61 (by kernel_rfl) rfl
theorem c63 : OkF Tryz.prog 63 f63 := .mk' (D := ⟨[]⟩) (by kernel_rfl) Tryz.func63 (by kernel_rfl) rfl
theorem c65 : OkF Tryz.prog 65 f65 := .mk' (D := ⟨[]⟩) (by kernel_rfl) Tryz.func65 (by kernel_rfl) rfl
theorem c66 : OkF Tryz.prog 66 f66 := .mk' (D := ⟨[]⟩) (by kernel_rfl) Tryz.func66 (by kernel_rfl) rfl
theorem c68 : OkF Tryz.prog 68 f68 := .mk' (D := ⟨[(4113,2),(9225,2)]⟩) (by kernel_rfl) Tryz.func68 (by kernel_rfl) rfl
theorem c69 : OkF Tryz.prog 69 f69 := .mk' (D := ⟨[]⟩) (by kernel_rfl) Tryz.func69 (by kernel_rfl) rfl
theorem c70 : OkF Tryz.prog 70 f70 := .mk' (D := ⟨[]⟩) (by kernel_rfl) Tryz.func70 (by kernel_rfl) rfl
theorem c71 : OkF Tryz.prog 71 f71 := .mk' (D := ⟨[]⟩) (by kernel_rfl) Tryz.func71 (by kernel_rfl) rfl
theorem c72 : OkF Tryz.prog 72 f72 := .mk' (D := ⟨[]⟩) (by kernel_rfl) Tryz.func72 (by kernel_rfl) rfl
theorem c73 : OkF Tryz.prog 73 f73 := .mk' (D := ⟨[]⟩) (by kernel_rfl) Tryz.func73 (by kernel_rfl) rfl
theorem c74 : OkF Tryz.prog 74 f74 := .mk' (D := ⟨[]⟩) (by kernel_rfl) Tryz.func74 (by kernel_rfl) rfl
theorem c75 : OkF Tryz.prog 75 f75 := .mk' (D := ⟨[]⟩) (by kernel_rfl) Tryz.func75 (by kernel_rfl) rfl
theorem c76 : OkF Tryz.prog 76 f76 := .mk' (D := ⟨[]⟩) (by kernel_rfl) Tryz.func76 (by kernel_rfl) rfl
theorem c77 : OkF Tryz.prog 77 f77 := .mk' (D := ⟨[(1040,1)]⟩) (by kernel_rfl) Tryz.func77 (by kernel_rfl) rfl
theorem c78 : OkF Tryz.prog 78 f78 := .mk' (D := ⟨[(2049,1),(3073,1),(13313,1)]⟩) (by kernel_rfl) Tryz.func78 (by kernel_rfl) rfl
theorem c79 : OkF Tryz.prog 79 f79 := .mk' (D := ⟨[(6146,1)]⟩) (by kernel_rfl) Tryz.func79 (by kernel_rfl) rfl
theorem c80 : OkF Tryz.prog 80 f80 := .mk' (D := ⟨[]⟩) (by kernel_rfl) Tryz.func80 (by kernel_rfl) rfl
end Go.Abs.Run
namespace Go.Abs.Run
open Go Go.Abs Go.Proofs
theorem c81 : OkF Tryz.prog 81 f81 := .mk' (D := ⟨[]⟩) (by kernel_rfl) Tryz.func81 (by kernel_rfl) rfl
theorem c82 : OkF Tryz.prog 82 f82 := .mk' (D := ⟨[]⟩) (by kernel_rfl) Tryz.func82 (by kernel_rfl) rfl
theorem c83 : OkF Tryz.prog 83 f83 := .mk' (D := ⟨[]⟩) (by kernel_rfl) Tryz.func83 (by kernel_rfl) rfl
theorem c84 : OkF Tryz.prog 84 f84 := .mk' (D := ⟨[]⟩) (by kernel_rfl) Tryz.func84 (by kernel_rfl) rfl
theorem c85 : OkF Tryz.prog 85 f85 := .mk' (D := ⟨[]⟩) (by kernel_rfl) Tryz.func85 (by kernel_rfl) rfl
theorem c86 : OkF Tryz.prog 86 f86 := .mk' (D := ⟨[]⟩) (by kernel_rfl) Tryz.func86 (by kernel_rfl) rfl
theorem c87 : OkF Tryz.prog 87 f87 := .mk' (D := ⟨[(1047,1)]⟩) (by kernel_rfl) Tryz.func87 (by kernel_rfl) rfl
theorem c88 : OkF Tryz.prog 88 f88 := .mk' (D := ⟨[(1029,1),(2053,1),(13314,1)]⟩) (by kernel_rfl) Tryz.func88 (by kernel_rfl) rfl
theorem c89 : OkF Tryz.prog 89 f89 := .mk' (D := ⟨[]⟩) (by kernel_rfl) Tryz.func89 (by kernel_rfl) rfl
theorem c90 : OkF Tryz.prog 90 f90 := .mk' (D := ⟨[]⟩) (by kernel_rfl) Tryz.func90 (by kernel_rfl) rfl
theorem c91 : OkF Tryz.prog 91 f91 := .mk' (D := ⟨[]⟩) (by kernel_rfl) Tryz.func91 (by kernel_rfl) rfl
theorem c92 : OkF Tryz.prog 92 f92 := .mk' (D := ⟨[]⟩) (by kernel_rfl) Tryz.func92 (by kernel_rfl) rfl
theorem c93 : OkF Tryz.prog 93 f93 := .mk' (D := ⟨[]⟩) (by kernel_rfl) Tryz.func93 (by kernel_rfl) rfl
theorem c94 : OkF Tryz.prog 94 f94 := .mk' (D := ⟨[]⟩) (by kernel_rfl) Tryz.func94 (by kernel_rfl) rfl
theorem c95 : OkF Tryz.prog 95 f95 := .mk' (D := ⟨[(1026,1)]⟩) (by kernel_rfl) Tryz.func95 (by kernel_rfl) rfl
theorem c96 : OkF Tryz.prog 96 f96 := .mk' (D := ⟨[]⟩) (by kernel_rfl) Tryz.func96 (by kernel_rfl) rfl
theorem c97 : OkF Tryz.prog 97 f97 := .mk' (D := ⟨[]⟩) (by kernel_rfl) Tryz.func97 (by kernel_rfl) rfl
theorem c98 : OkF Tryz.prog 98 f98 := .mk' (D := ⟨[]⟩) (by kernel_rfl) Tryz.func98 (by kernel_rfl) rfl
theorem c99 : OkF Tryz.prog 99 f99 := .mk' (D := ⟨[]⟩) (by kernel_rfl) Tryz.func99 (by kernel_rfl) rfl
theorem c100 : OkF Tryz.prog 100 f100 := .mk' (D := ⟨[]⟩) (by kernel_rfl) Tryz.func100 (by kernel_rfl) rfl
theorem c101 : OkF Tryz.prog 101 f101 := .mk' (D := ⟨[(1026,1)]⟩) (by kernel_rfl) Tryz.func101 (by kernel_rfl) rfl
theorem c102 : OkF Tryz.prog 102 f102 := .mk' (D := ⟨[]⟩) (by kernel_rfl) Tryz.func102 (by kernel_rfl) rfl
theorem c103 : OkF Tryz.prog 103 f103 := .mk' (D := ⟨[]⟩) (by kernel_rfl) Tryz.func103 (by kernel_rfl) rfl
theorem c104 : OkF Tryz.prog 104 f104 := .mk' (D := ⟨[]⟩) (by kernel_rfl) Tryz.func104 (by kernel_rfl) rfl
theorem c105 : OkF Tryz.prog 105 f105 := .mk' (D := ⟨[]⟩) (by kernel_rfl) Tryz.func105 (by kernel_rfl) rfl
theorem c106 : OkF Tryz.prog 106 f106 := .mk' (D := ⟨[]⟩) (by kernel_rfl) Tryz.func106 (by kernel_rfl) rfl
theorem c108 : OkF Tryz.prog 108 f108 := .mk' (D := ⟨[]⟩) (by kernel_rfl) Tryz.func108 (by kernel_rfl) rfl
theorem c109 : OkF Tryz.prog 109 f109 := .mk' (D := ⟨[]⟩) (by kernel_rfl) Tryz.func109 (by kernel_rfl) rfl
theorem c111 : OkF Tryz.prog 111 f111 := .mk' (D := ⟨[]⟩) (by kernel_rfl) Tryz.func111 (by kernel_rfl) rfl
theorem c112 : OkF Tryz.prog 112 f112 := .mk' (D := ⟨[]⟩) (by kernel_rfl) Tryz.func112 (by kernel_rfl) rfl
theorem c113 : OkF Tryz.prog 113 f113 := .mk' (D := ⟨[]⟩) (by kernel_rfl) Tryz.func113 (by kernel_rfl) rfl
theorem c115 : OkF Tryz.prog 115 f115 := .mk' (D := ⟨[]⟩) (by kernel_rfl) Tryz.func115 (by kernel_rfl) rfl
theorem c117 : OkF Tryz.prog 117 f117 := .mk' (D := ⟨[]⟩) (by kernel_rfl) Tryz.func117 (by kernel_rfl) rfl
theorem c118 : OkF Tryz.prog 118 f118 := .mk' (D := ⟨[]⟩) (by kernel_rfl) Tryz.func118 (by kernel_rfl) rfl
theorem c120 : OkF Tryz.prog 120 f120 := .mk' (D := ⟨[]⟩) (by kernel_rfl) Tryz.func120 (by kernel_rfl) rfl
theorem c121 : OkF Tryz.prog 121 f121 := .mk' (D := ⟨[]⟩) (by kernel_rfl) Tryz.func121 (by kernel_rfl) rfl
theorem c125 : OkF Tryz.prog 125 f125 := .mk' (D := ⟨[]⟩) (by kernel_rfl) Tryz.func125 (by kernel_rfl) rfl
theorem c126 : OkF Tryz.prog 126 f126 := .mk' (D := ⟨[]⟩) (by kernel_rfl) Tryz.func126 (by kernel_rfl) rfl
theorem c127 : OkF Tryz.prog 127 f127 := .mk' (D := ⟨[]⟩) (by kernel_rfl) Tryz.func127 (by kernel_rfl) rfl
theorem c128 : OkF Tryz.prog 128 f128 := .mk' (D := ⟨[]⟩) (by kernel_rfl) Tryz.func128 (by kernel_rfl) rfl
theorem c129 : OkF Tryz.prog 129 f129 := .mk' (D := ⟨[]⟩) (by kernel_rfl) Tryz.func129 (by kernel_rfl) rfl
theorem c130 : OkF Tryz.prog 130 f130 := .mk' (D := ⟨[]⟩) (by kernel_rfl) Tryz.func130 (by kernel_rfl) rfl
theorem c131 : OkF Tryz.prog 131 f131 := .mk' (D := ⟨[]⟩) (by kernel_rfl) Tryz.func131 (by kernel_rfl) rfl
theorem c132 : OkF Tryz.prog 132 f132 := .mk' (D := ⟨[]⟩) (by kernel_rfl) Tryz.func132 (by kernel_rfl) rfl
theorem c135 : OkF Tryz.prog 135 f135 := .mk' (D := ⟨[]⟩) (by kernel_rfl) Tryz.func135 (by kernel_rfl) rfl
theorem c136 : OkF Tryz.prog 136 f136 := .mk' (D := ⟨[]⟩) (by kernel_rfl) Tryz.func136 (by kernel_rfl) rfl
theorem c137 : OkF Tryz.prog 137 f137 := .mk' (D := ⟨[]⟩) (by kernel_rfl) Tryz.func137 (by kernel_rfl) rfl
theorem c138 : OkF Tryz.prog 138 f138 := .mk' (D := ⟨[]⟩) (by kernel_rfl) Tryz.func138 (by kernel_rfl) rfl
theorem c139 : OkF Tryz.prog 139 f139 := .mk' (D := ⟨[(3074,2)]⟩) (by kernel_rfl) Tryz.func139 (by kernel_rfl) rfl
theorem c140 : OkF Tryz.prog 140 f140 := .mk' (D := ⟨[(3074,2)]⟩) (by kernel_rfl) Tryz.func140 (by kernel_rfl) rfl
theorem c141 : OkF Tryz.prog 141 f141 := .mk' (D := ⟨[(3074,2)]⟩) (by kernel_rfl) Tryz.func141 (by kernel_rfl) rfl
theorem c142 : OkF Tryz.prog 142 f142 := .mk' (D := ⟨[]⟩) (by kernel_rfl) Tryz.func142 (by kernel_rfl) rfl
theorem c143 : OkF Tryz.prog 143 f143 := .mk' (D := ⟨[]⟩) (by kernel_rfl) Tryz.func143 (by kernel_rfl) rfl
theorem c144 : OkF Tryz.prog 144 f144 := .mk' (D := ⟨[]⟩) (by kernel_rfl) Tryz.func144 (by kernel_rfl) rfl
theorem c145 : OkF Tryz.prog 145 f145 := .mk' (D := ⟨[]⟩) (by kernel_rfl) Tryz.func145 (by kernel_rfl) rfl
theorem c146 : OkF Tryz.prog 146 f146 := .mk' (D := ⟨[]⟩) (by kernel_rfl) Tryz.func146 (by kernel_rfl) rfl
theorem c147 : OkF Tryz.prog 147 f147 := .mk' (D := ⟨[(11267,1)]⟩) (by kernel_rfl) Tryz.func147 (by kernel_rfl) rfl
theorem c148 : OkF Tryz.prog 148 f148 := .mk' (D := ⟨[]⟩) (by kernel_rfl) Tryz.func148 (by kernel_rfl) rfl
theorem c151 : OkF Tryz.prog 151 f151 := .mk' (D := ⟨[]⟩) (by kernel_rfl) Tryz.func151 (by kernel_rfl) rfl
end Go.Abs.Run
namespace Go.Abs.Run
open Go Go.Abs Go.Proofs
theorem c152 : OkF Tryz.prog 152 f152 := .mk' (D := ⟨[]⟩) (by kernel_rfl) Tryz.func152 (by kernel_rfl) rfl
theorem c154 : OkF Tryz.prog 154 f154 := .mk' (D := ⟨[]⟩) (by kernel_rfl) Tryz.func154 (by kernel_rfl) rfl
theorem c155 : OkF Tryz.prog 155 f155 := .mk' (D := ⟨[(5123,1)]⟩) (by kernel_rfl) Tryz.func155 (by kernel_rfl) rfl
theorem c156 : OkF Tryz.prog 156 f156 := .mk' (D := ⟨[]⟩) (by kernel_rfl) Tryz.func156 (by kernel_rfl) rfl
theorem c157 : OkF Tryz.prog 157 f157 := .mk' (D := ⟨[]⟩) (by kernel_rfl) Tryz.func157 (by kernel_rfl) rfl
theorem c158 : OkF Tryz.prog 158 f158 := .mk' (D := ⟨[(1029,2)]⟩) (by kernel_rfl) Tryz.func158 (by kernel_rfl) rfl
theorem c159 : OkF Tryz.prog 159 f159 := .mk' (D := ⟨[]⟩) (by kernel_rfl) Tryz.func159 (by kernel_rfl) rfl
theorem c160 : OkF Tryz.prog 160 f160 := .mk' (D := ⟨[]⟩) (by kernel_rfl) Tryz.func160 (by kernel_rfl) rfl
theorem c161 : OkF Tryz.prog 161 f161 := .mk' (D := ⟨[]⟩) (by kernel_rfl) Tryz.func161 (by kernel_rfl) rfl
theorem c162 : OkF Tryz.prog 162 f162 := .mk' (D := ⟨[]⟩) (by kernel_rfl) Tryz.func162 (by kernel_rfl) rfl
theorem c163 : OkF Tryz.prog 163 f163 := .mk' (D := ⟨[]⟩) (by kernel_rfl) Tryz.func163 (by kernel_rfl) rfl
theorem c164 : OkF Tryz.prog 164 f164 := .mk' (D := ⟨[]⟩) (by kernel_rfl) Tryz.func164 (by kernel_rfl) rfl
theorem c165 : OkF Tryz.prog 165 f165 := .mk' (D := ⟨[]⟩) (by kernel_rfl) Tryz.func165 (by kernel_rfl) rfl
theorem c166 : OkF Tryz.prog 166 f166 := .mk' (D := ⟨[]⟩) (by kernel_rfl) Tryz.func166 (by kernel_rfl) rfl
theorem c167 : OkF Tryz.prog 167 f167 := .mk' (D := ⟨[]⟩) (by kernel_rfl) Tryz.func167 (by kernel_rfl) rfl
theorem c168 : OkF Tryz.prog 168 f168 := .mk' (D := ⟨[]⟩) (by kernel_rfl) Tryz.func168 (by kernel_rfl) rfl
theorem c169 : OkF Tryz.prog 169 f169 := .mk' (D := ⟨[]⟩) (by kernel_rfl) Tryz.func169 (by kernel_rfl) rfl
theorem c170 : OkF Tryz.prog 170 f170 := .mk' (D := ⟨[]⟩) (by kernel_rfl) Tryz.func170 (by kernel_rfl) rfl
theorem c177 : OkF Tryz.prog 177 f177 := .mk' (D := ⟨[]⟩) (by kernel_rfl) Tryz.func177 (by kernel_rfl) rfl
theorem c178 : OkF Tryz.prog 178 f178 := .mk' (D := ⟨[]⟩) (by kernel_rfl) Tryz.func178 (by kernel_rfl) rfl
theorem c179 : OkF Tryz.prog 179 f179 := .mk' (D := ⟨[]⟩) (by kernel_rfl) Tryz.func179 (by kernel_rfl) rfl
theorem c180 : OkF Tryz.prog 180 f180 := .mk' (D := ⟨[]⟩) (by kernel_rfl) Tryz.func180 (by kernel_rfl) rfl
theorem c184 : OkF Tryz.prog 184 f184 := .mk' (D := ⟨[]⟩) (by kernel_rfl) Tryz.func184 (by kernel_rfl) rfl
theorem c186 : OkF Tryz.prog 186 f186 := .mk' (D := ⟨[]⟩) (by kernel_rfl) Tryz.func186 (by kernel_rfl) rfl
theorem c195 : OkF Tryz.prog 195 f195 := .mk' (D := ⟨[]⟩) (by kernel_rfl) Tryz.func195 (by kernel_rfl) rfl
theorem c196 : OkF Tryz.prog 196 f196 := .mk' (D := ⟨[]⟩) (by kernel_rfl) Tryz.func196 (by kernel_rfl) rfl
theorem c204 : OkF Tryz.prog 204 f204 := .mk' (D := ⟨[]⟩) (by kernel_rfl) Tryz.func204 (by kernel_rfl) rfl
theorem c205 : OkF Tryz.prog 205 f205 := .mk' (D := ⟨[]⟩) (by kernel_rfl) Tryz.func205 (by kernel_rfl) rfl
theorem c209 : OkF Tryz.prog 209 f209 := .mk' (D := ⟨[]⟩) (by kernel_rfl) Tryz.func209 (by kernel_rfl) rfl
theorem c210 : OkF Tryz.prog 210 f210 := .mk' (D := ⟨[]⟩) (by kernel_rfl) Tryz.func210 (by kernel_rfl) rfl
theorem c211 : OkF Tryz.prog 211 f211 := .mk' (D := ⟨[]⟩) (by kernel_rfl) Tryz.func211 (by kernel_rfl) rfl
theorem c212 : OkF Tryz.prog 212 f212 := .mk' (D := ⟨[]⟩) (by kernel_rfl) Tryz.func212 (by kernel_rfl) rfl
theorem c213 : OkF Tryz.prog 213 f213 := .mk' (D := ⟨[]⟩) (by kernel_rfl) Tryz.func213 (by kernel_rfl) rfl
theorem c214 : OkF Tryz.prog 214 f214 := .mk' (D := ⟨[]⟩) (by kernel_rfl) Tryz.func214 (by kernel_rfl) rfl
theorem c215 : OkF Tryz.prog 215 f215 := .mk' (D := ⟨[]⟩) (by kernel_rfl) Tryz.func215 (by kernel_rfl) rfl
theorem c216 : OkF Tryz.prog 216 f216 := .mk' (D := ⟨[(1028,302310152250995454208294197144844381993413945369837569)]⟩) (by kernel_rfl) Tryz.func216 (by kernel_rfl) rfl
theorem c217 : OkF Tryz.prog 217 f217 := .mk' (D := ⟨[]⟩) (by kernel_rfl) Tryz.func217 (by kernel_rfl) rfl
theorem c218 : OkF Tryz.prog 218 f218 := .mk' (D := ⟨[]⟩) (by kernel_rfl) Tryz.func218 (by kernel_rfl) rfl
theorem c220 : OkF Tryz.prog 220 f220 := .mk' (D := ⟨[]⟩) (by kernel_rfl) Tryz.func220 (by kernel_rfl) rfl
theorem c221 : OkF Tryz.prog 221 f221 := .mk' (D := ⟨[]⟩) (by kernel_rfl) Tryz.func221 (by kernel_rfl) rfl
theorem c222 : OkF Tryz.prog 222 f222 := .mk' (D := ⟨[]⟩) (by kernel_rfl) Tryz.func222 (by kernel_rfl) rfl
theorem c227 : OkF Tryz.prog 227 f227 := .mk' (D := ⟨[]⟩) (by kernel_rfl) Tryz.func227 (by kernel_rfl) rfl
theorem c228 : OkF Tryz.prog 228 f228 := .mk' (D := ⟨[]⟩) (by kernel_rfl) Tryz.func228 (by kernel_rfl) rfl
theorem c229 : OkF Tryz.prog 229 f229 := .mk' (D := ⟨[]⟩) (by kernel_rfl) Tryz.func229 (by kernel_rfl) rfl
theorem c231 : OkF Tryz.prog 231 f231 := .mk' (D := ⟨[]⟩) (by kernel_rfl) Tryz.func231 (by kernel_rfl) rfl
theorem c235 : OkF Tryz.prog 235 f235 := .mk' (D := ⟨[]⟩) (by kernel_rfl) Tryz.func235 (by kernel_rfl) rfl
theorem c236 : OkF Tryz.prog 236 f236 := .mk' (D := ⟨[]⟩) (by kernel_rfl) Tryz.func236 (by kernel_rfl) rfl
theorem c248 : OkF Tryz.prog 248 f248 := .mk' (D := ⟨[]⟩) (by kernel_rfl) Tryz.func248 (by kernel_rfl) rfl
theorem c249 : OkF Tryz.prog 249 f249 := .mk' (D := ⟨[]⟩) (by kernel_rfl) Tryz.func249 (by kernel_rfl) rfl
theorem c250 : OkF Tryz.prog 250 f250 := .mk' (D := ⟨[]⟩) (by kernel_rfl) Tryz.func250 (by kernel_rfl) rfl
theorem c251 : OkF Tryz.prog 251 f251 := .mk' (D := ⟨[]⟩) (by kernel_rfl) Tryz.func251 (by kernel_rfl) rfl
theorem c252 : OkF Tryz.prog 252 f252 := .mk' (D := ⟨[]⟩) (by kernel_rfl) Tryz.func252 (by kernel_rfl) rfl
theorem c261 : OkF Tryz.prog 261 f261 := .mk' (D := ⟨[]⟩) (by kernel_rfl) Tryz.func261 (by kernel_rfl) rfl
theorem c262 : OkF Tryz.prog 262 f262 := .mk' (D := ⟨[]⟩) (by kernel_rfl) Tryz.func262 (by kernel_rfl) rfl
theorem c263 : OkF Tryz.prog 263 f263 := .mk' (D := ⟨[]⟩) (by kernel_rfl) Tryz.func263 (by kernel_rfl) rfl
theorem c264 : OkF Tryz.prog 264 f264 := .mk' (D := ⟨[]⟩) (by kernel_rfl) Tryz.func264 (by kernel_rfl) rfl
theorem c265 : OkF Tryz.prog 265 f265 := .mk' (D := ⟨[]⟩) (by kernel_rfl) Tryz.func265 (by kernel_rfl) rfl
theorem c269 : OkF Tryz.prog 269 f269 := .mk' (D := ⟨[]⟩) (by kernel_rfl) Tryz.func269 (by kernel_rfl) rfl
end Go.Abs.Run
namespace Go.Abs.Run
open Go Go.Abs Go.Proofs
theorem c277 : OkF Tryz.prog 277 f277 := .mk' (D := ⟨[]⟩) (by kernel_rfl) Tryz.func277 (by kernel_rfl) rfl
theorem c280 : OkF Tryz.prog 280 f280 := .mk' (D := ⟨[]⟩) (by kernel_rfl) Tryz.func280 (by kernel_rfl) rfl
theorem c281 : OkF Tryz.prog 281 f281 := .mk' (D := ⟨[]⟩) (by kernel_rfl) Tryz.func281 (by kernel_rfl) rfl
theorem c293 : OkF Tryz.prog 293 f293 := .mk' (D := ⟨[]⟩) (by kernel_rfl) Tryz.func293 (by kernel_rfl) rfl
theorem c294 : OkF Tryz.prog 294 f294 := .mk' (D := ⟨[]⟩) (by kernel_rfl) Tryz.func294 (by kernel_rfl) rfl
theorem c296 : OkF Tryz.prog 296 f296 := .mk' (D := ⟨[]⟩) (by kernel_rfl) Tryz.func296 (by kernel_rfl) rfl
theorem c298 : OkF Tryz.prog 298 f298 := .mk' (D := ⟨[]⟩) (by kernel_rfl) Tryz.func298 (by kernel_rfl) rfl
theorem c305 : OkF Tryz.prog 305 f305 := .mk' (D := ⟨[]⟩) (by kernel_rfl) Tryz.func305 (by kernel_rfl) rfl
theorem c311 : OkF Tryz.prog 311 f311 := .mk' (D := ⟨[]⟩) (by kernel_rfl) Tryz.func311 (by kernel_rfl) rfl
theorem c312 : OkF Tryz.prog 312 f312 := .mk' (D := ⟨[]⟩) (by kernel_rfl) Tryz.func312 (by kernel_rfl) rfl
theorem c314 : OkF Tryz.prog 314 f314 := .mk' (D := ⟨[]⟩) (by kernel_rfl) Tryz.func314 (by kernel_rfl) rfl
theorem c315 : OkF Tryz.prog 315 f315 := .mk' (D := ⟨[(1028,1)]⟩) (by kernel_rfl) Tryz.func315 (by kernel_rfl) rfl
theorem c316 : OkF Tryz.prog 316 f316 := .mk' (D := ⟨[]⟩) (by kernel_rfl) Tryz.func316 (by kernel_rfl) rfl
theorem c331 : OkF Tryz.prog 331 f331 := .mk' (D := ⟨[(14337,1)]⟩) (by kernel_rfl) Tryz.func331 (by kernel_rfl) rfl
end Go.Abs.Run
