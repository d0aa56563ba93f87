/-
  The library's sorts at this program: the kit's laying, in plain words.
-/
import Derived.Shelf.SortM.Plain
import Derived.Shelf.SortM.SortNone
import Derived.Ground.SlgmProg
import Derived.Test.YtliopiphobopjaaGreatProg
set_option maxRecDepth 100000
set_option maxHeartbeats 16000000
namespace Go.Proofs
open Go.Shelf
def Tryz.sortI_ren : Go.Shelf.Ren := ⟨fun | 5 => 209 | 8 => 249 | 7 => 248 | 19 => 273 | 20 => 274 | 10 => 264 | 11 => 265 | 12 => 266 | 13 => 267 | 14 => 268 | 15 => 269 | 16 => 270 | 17 => 271 | 18 => 272 | 30 => 291 | 31 => 292 | 32 => 293 | 33 => 294 | 34 => 295 | 35 => 296 | 40 => 309 | n => n, fun | 23 => 22 | 25 => 3 | 3 => 3 | 32 => 249 | 22 => 22 | 0 => 0 | 44 => 269 | 46 => 271 | 4 => 4 | 36 => 262 | 35 => 261 | 41 => 266 | 5 => 5 | 9 => 9 | 53 => 282 | 57 => 286 | 63 => 295 | 64 => 296 | n => n, fun | n => n⟩
theorem Tryz.sortI : Go.Proofs.SlLaysM.n5 Tryz.prog Tryz.sortI_ren := {
 mixed := by kernel_rfl
 f5 := ⟨Tryz.f209.name, by decide, Tryz.func209.trans (congrArg some (by kernel_rfl))⟩
 f7 := ⟨Tryz.f248.name, by decide, Tryz.func248.trans (congrArg some (by kernel_rfl))⟩
 f8 := Tryz.func249.trans (congrArg some (by kernel_rfl))
 f10 := ⟨Tryz.f264.name, by decide, Tryz.func264.trans (congrArg some (by kernel_rfl))⟩
 f11 := ⟨Tryz.f265.name, by decide, Tryz.func265.trans (congrArg some (by kernel_rfl))⟩
 f12 := ⟨Tryz.f266.name, by decide, Tryz.func266.trans (congrArg some (by kernel_rfl))⟩
 f13 := ⟨Tryz.f267.name, by decide, Tryz.func267.trans (congrArg some (by kernel_rfl))⟩
 f14 := ⟨Tryz.f268.name, by decide, Tryz.func268.trans (congrArg some (by kernel_rfl))⟩
 f15 := ⟨Tryz.f269.name, by decide, Tryz.func269.trans (congrArg some (by kernel_rfl))⟩
 f16 := ⟨Tryz.f270.name, by decide, Tryz.func270.trans (congrArg some (by kernel_rfl))⟩
 f17 := ⟨Tryz.f271.name, by decide, Tryz.func271.trans (congrArg some (by kernel_rfl))⟩
 f18 := ⟨Tryz.f272.name, by decide, Tryz.func272.trans (congrArg some (by kernel_rfl))⟩
 f19 := Tryz.func273.trans (congrArg some (by kernel_rfl))
 f20 := Tryz.func274.trans (congrArg some (by kernel_rfl))
 f30 := ⟨Tryz.f291.name, by decide, Tryz.func291.trans (congrArg some (by kernel_rfl))⟩
 f31 := Tryz.func292.trans (congrArg some (by kernel_rfl))
 f32 := Tryz.func293.trans (congrArg some (by kernel_rfl))
 f33 := ⟨Tryz.f294.name, by decide, Tryz.func294.trans (congrArg some (by kernel_rfl))⟩
 f34 := ⟨Tryz.f295.name, by decide, Tryz.func295.trans (congrArg some (by kernel_rfl))⟩
 f35 := ⟨Tryz.f296.name, by decide, Tryz.func296.trans (congrArg some (by kernel_rfl))⟩
 f40 := ⟨Tryz.f309.name, by decide, Tryz.func309.trans (congrArg some (by kernel_rfl))⟩
 t0 := Tryz.underlying0
 a0 := Tryz.isAgg0
 z0 := Tryz.sizeOf0
 v0 := Tryz.zeroValue0
 t3 := Tryz.underlying3
 a3 := Tryz.isAgg3
 z3 := Tryz.sizeOf3
 v3 := Tryz.zeroValue3
 t4 := Tryz.underlying4
 a4 := Tryz.isAgg4
 z4 := Tryz.sizeOf4
 v4 := Tryz.zeroValue4
 t5 := Tryz.underlying5
 a5 := Tryz.isAgg5
 z5 := Tryz.sizeOf5
 v5 := Tryz.zeroValue5
 t9 := Tryz.underlying9
 a9 := Tryz.isAgg9
 z9 := Tryz.sizeOf9
 v9 := Tryz.zeroValue9
 t22 := Tryz.underlying22
 a22 := Tryz.isAgg22
 z22 := Tryz.sizeOf22
 v22 := Tryz.zeroValue22
 t23 := Tryz.underlying22
 a23 := Tryz.isAgg22
 z23 := Tryz.sizeOf22
 v23 := Tryz.zeroValue22
 t25 := Tryz.underlying3
 a25 := Tryz.isAgg3
 z25 := Tryz.sizeOf3
 v25 := Tryz.zeroValue3
 t32 := Tryz.underlying249
 a32 := Tryz.isAgg249
 z32 := Tryz.sizeOf249
 v32 := Tryz.zeroValue249
 t35 := Tryz.underlying261
 a35 := Tryz.isAgg261
 z35 := Tryz.sizeOf261
 v35 := Tryz.zeroValue261
 t36 := Tryz.underlying262
 a36 := Tryz.isAgg262
 z36 := Tryz.sizeOf262
 v36 := Tryz.zeroValue262
 t41 := Tryz.underlying266
 a41 := Tryz.isAgg266
 z41 := Tryz.sizeOf266
 v41 := Tryz.zeroValue266
 t44 := Tryz.underlying269
 a44 := Tryz.isAgg269
 z44 := Tryz.sizeOf269
 v44 := Tryz.zeroValue269
 t46 := Tryz.underlying271
 a46 := Tryz.isAgg271
 z46 := Tryz.sizeOf271
 v46 := Tryz.zeroValue271
 t53 := Tryz.underlying282
 a53 := Tryz.isAgg282
 z53 := Tryz.sizeOf282
 v53 := Tryz.zeroValue282
 t57 := Tryz.underlying286
 a57 := Tryz.isAgg286
 z57 := Tryz.sizeOf286
 v57 := Tryz.zeroValue286
 t63 := Tryz.underlying295
 a63 := Tryz.isAgg295
 z63 := Tryz.sizeOf295
 v63 := Tryz.zeroValue295
 t64 := Tryz.underlying296
 a64 := Tryz.isAgg296
 z64 := Tryz.sizeOf296
 v64 := Tryz.zeroValue296 }
end Go.Proofs
