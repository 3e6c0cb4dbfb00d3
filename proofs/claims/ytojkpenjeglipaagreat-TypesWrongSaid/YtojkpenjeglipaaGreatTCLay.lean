import Derived.Shelf.SlIter.Nil
import Derived.Shelf.SortM.Plain
import Derived.Shelf.SortM.SortNone
import Derived.Shelf.SlicesG.CompactS
import Derived.Ground.GgzProg
import Derived.Ground.SlgmProg
import Derived.Ground.SlgnProg
import Derived.Test.YtojkpenjeglipaaGreatProg
namespace Go.Proofs
open Go.Shelf
def Tryz.sortedL_ren : Go.Shelf.Ren := ⟨fun | 6 => 173 | 8 => 116 | 9 => 58 | 11 => 196 | 13 => 113 | 12 => 112 | 23 => 193 | 24 => 194 | 14 => 184 | 15 => 185 | 16 => 186 | 17 => 187 | 18 => 188 | 19 => 189 | 20 => 190 | 21 => 191 | 22 => 192 | 25 => 238 | 26 => 239 | 27 => 240 | 28 => 241 | 29 => 242 | 30 => 200 | 31 => 271 | n => n, fun | 26 => 9 | 28 => 194 | 24 => 53 | 0 => 0 | 3 => 3 | 37 => 85 | 48 => 260 | 50 => 262 | 4 => 4 | 40 => 254 | 39 => 253 | 45 => 199 | 5 => 5 | 9 => 9 | 51 => 293 | 55 => 297 | 57 => 319 | 58 => 102 | 33 => 79 | n => n, fun | n => n⟩
def Tryz.sortL_ren : Go.Shelf.Ren := ⟨fun | 6 => 58 | 8 => 113 | 9 => 112 | 19 => 193 | 20 => 194 | 21 => 184 | 22 => 185 | 23 => 186 | 24 => 187 | 25 => 188 | 26 => 189 | 27 => 190 | 28 => 191 | 29 => 192 | 36 => 238 | 31 => 239 | 32 => 240 | 37 => 241 | 38 => 242 | 39 => 200 | 41 => 271 | n => n, fun | 27 => 53 | 29 => 9 | 3 => 3 | 32 => 85 | 26 => 53 | 0 => 0 | 44 => 260 | 46 => 262 | 4 => 4 | 36 => 254 | 35 => 253 | 41 => 199 | 5 => 5 | 9 => 9 | 53 => 293 | 57 => 297 | 63 => 319 | 64 => 102 | n => n, fun | n => n⟩
theorem Tryz.sortL : Go.Proofs.SlLaysM.n6 Tryz.prog Tryz.sortL_ren := {
 mixed := by kernel_rfl
 f6 := ⟨Tryz.f58.name, by decide, Tryz.func58.trans (congrArg some (by kernel_rfl))⟩
 f8 := Tryz.func113.trans (congrArg some (by kernel_rfl))
 f9 := ⟨Tryz.f112.name, by decide, Tryz.func112.trans (congrArg some (by kernel_rfl))⟩
 f19 := Tryz.func193.trans (congrArg some (by kernel_rfl))
 f20 := Tryz.func194.trans (congrArg some (by kernel_rfl))
 f21 := ⟨Tryz.f184.name, by decide, Tryz.func184.trans (congrArg some (by kernel_rfl))⟩
 f22 := ⟨Tryz.f185.name, by decide, Tryz.func185.trans (congrArg some (by kernel_rfl))⟩
 f23 := ⟨Tryz.f186.name, by decide, Tryz.func186.trans (congrArg some (by kernel_rfl))⟩
 f24 := ⟨Tryz.f187.name, by decide, Tryz.func187.trans (congrArg some (by kernel_rfl))⟩
 f25 := ⟨Tryz.f188.name, by decide, Tryz.func188.trans (congrArg some (by kernel_rfl))⟩
 f26 := ⟨Tryz.f189.name, by decide, Tryz.func189.trans (congrArg some (by kernel_rfl))⟩
 f27 := ⟨Tryz.f190.name, by decide, Tryz.func190.trans (congrArg some (by kernel_rfl))⟩
 f28 := ⟨Tryz.f191.name, by decide, Tryz.func191.trans (congrArg some (by kernel_rfl))⟩
 f29 := ⟨Tryz.f192.name, by decide, Tryz.func192.trans (congrArg some (by kernel_rfl))⟩
 f31 := Tryz.func239.trans (congrArg some (by kernel_rfl))
 f32 := Tryz.func240.trans (congrArg some (by kernel_rfl))
 f36 := ⟨Tryz.f238.name, by decide, Tryz.func238.trans (congrArg some (by kernel_rfl))⟩
 f37 := ⟨Tryz.f241.name, by decide, Tryz.func241.trans (congrArg some (by kernel_rfl))⟩
 f38 := ⟨Tryz.f242.name, by decide, Tryz.func242.trans (congrArg some (by kernel_rfl))⟩
 f39 := ⟨Tryz.f200.name, by decide, Tryz.func200.trans (congrArg some (by kernel_rfl))⟩
 f41 := ⟨Tryz.f271.name, by decide, Tryz.func271.trans (congrArg some (by kernel_rfl))⟩
 t0 := Tryz.underlying0
 a0 := Tryz.isAgg0
 z0 := Tryz.sizeOf0
 v0 := Tryz.zeroValue0
 t3 := Tryz.underlying3
 a3 := Tryz.isAgg3
 z3 := Tryz.sizeOf3
 v3 := Tryz.zeroValue3
 t4 := Tryz.underlying4
 a4 := Tryz.isAgg4
 z4 := Tryz.sizeOf4
 v4 := Tryz.zeroValue4
 t5 := Tryz.underlying5
 a5 := Tryz.isAgg5
 z5 := Tryz.sizeOf5
 v5 := Tryz.zeroValue5
 t9 := Tryz.underlying9
 a9 := Tryz.isAgg9
 z9 := Tryz.sizeOf9
 v9 := Tryz.zeroValue9
 t26 := Tryz.underlying53
 a26 := Tryz.isAgg53
 z26 := Tryz.sizeOf53
 v26 := Tryz.zeroValue53
 t27 := Tryz.underlying53
 a27 := Tryz.isAgg53
 z27 := Tryz.sizeOf53
 v27 := Tryz.zeroValue53
 t29 := Tryz.underlying9
 a29 := Tryz.isAgg9
 z29 := Tryz.sizeOf9
 v29 := Tryz.zeroValue9
 t32 := Tryz.underlying85
 a32 := Tryz.isAgg85
 z32 := Tryz.sizeOf85
 v32 := Tryz.zeroValue85
 t35 := Tryz.underlying253
 a35 := Tryz.isAgg253
 z35 := Tryz.sizeOf253
 v35 := Tryz.zeroValue253
 t36 := Tryz.underlying254
 a36 := Tryz.isAgg254
 z36 := Tryz.sizeOf254
 v36 := Tryz.zeroValue254
 t41 := Tryz.underlying199
 a41 := Tryz.isAgg199
 z41 := Tryz.sizeOf199
 v41 := Tryz.zeroValue199
 t44 := Tryz.underlying260
 a44 := Tryz.isAgg260
 z44 := Tryz.sizeOf260
 v44 := Tryz.zeroValue260
 t46 := Tryz.underlying262
 a46 := Tryz.isAgg262
 z46 := Tryz.sizeOf262
 v46 := Tryz.zeroValue262
 t53 := Tryz.underlying293
 a53 := Tryz.isAgg293
 z53 := Tryz.sizeOf293
 v53 := Tryz.zeroValue293
 t57 := Tryz.underlying297
 a57 := Tryz.isAgg297
 z57 := Tryz.sizeOf297
 v57 := Tryz.zeroValue297
 t63 := Tryz.underlying319
 a63 := Tryz.isAgg319
 z63 := Tryz.sizeOf319
 v63 := Tryz.zeroValue319
 t64 := Tryz.underlying102
 a64 := Tryz.isAgg102
 z64 := Tryz.sizeOf102
 v64 := Tryz.zeroValue102 }
def Tryz.compactL_ren : Go.Shelf.Ren := ⟨fun | 44 => 59 | n => n, fun | 25 => 53 | 26 => 9 | 3 => 3 | 4 => 4 | 0 => 0 | n => n, fun | n => n⟩
theorem Tryz.compactL : Go.Proofs.SlLaysN.n44 Tryz.prog Tryz.compactL_ren := {
 mixed := by kernel_rfl
 f44 := ⟨Tryz.f59.name, by decide, Tryz.func59.trans (congrArg some (by kernel_rfl))⟩
 t0 := Tryz.underlying0
 a0 := Tryz.isAgg0
 z0 := Tryz.sizeOf0
 v0 := Tryz.zeroValue0
 t3 := Tryz.underlying3
 a3 := Tryz.isAgg3
 z3 := Tryz.sizeOf3
 v3 := Tryz.zeroValue3
 t4 := Tryz.underlying4
 a4 := Tryz.isAgg4
 z4 := Tryz.sizeOf4
 v4 := Tryz.zeroValue4
 t25 := Tryz.underlying53
 a25 := Tryz.isAgg53
 z25 := Tryz.sizeOf53
 v25 := Tryz.zeroValue53
 t26 := Tryz.underlying9
 a26 := Tryz.isAgg9
 z26 := Tryz.sizeOf9
 v26 := Tryz.zeroValue9
 i26 := by kernel_rfl }
end Go.Proofs
