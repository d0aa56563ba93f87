/-
  What the program's table says of its types.
-/
import Derived.Test.YtkdniahincpmaaaGreatChecked
import Derived.Test.YtkdniahincpmaaaGreatQB2
set_option maxRecDepth 100000
set_option maxHeartbeats 16000000
namespace Go.Proofs.YtkdniahincpmaaaGreat
open Go Go.RowKit
section

abbrev Qv{P:Program}{T:TypeId}{d:TypeDesc}(z:Value)(s b:Nat)(hu:P.underlying T=some d)(hi:(P.info? T).map (fun i=>(i.zero,i.size,i.bytes))=some (some z,s,b):=by as_aux_lemma=>kernel_rfl):TI P T:=⟨d,hu,z,s,b,hi⟩
open Tryz
abbrev zvU(T:TypeId):=TI Tryz.prog T
abbrev zvi:Value:=.int .i64 0
abbrev zvs:Value:=.slice none 0 0
abbrev zv0:Value:=.agg #[zvi,zvi,.bool false,.int .u8 0]
abbrev zv1:Value:=.agg #[.string ⟨#[]⟩,.int .u64 0]
abbrev zv2:Value:=.agg #[zvs,zvs]
abbrev zv3:Value:=.agg #[zvi,zvi,zvi]
abbrev zv4:Value:=.agg #[zvs,zvs,zvs,zvi,zvi,zvi,zvi,zvi,zvs,zvs,zvs]
abbrev zv5:Value:=.agg #[zvs,zvi,zvi]
abbrev zv6:Value:=.agg #[zvs,zvs,zvs,zvi,zvi,zvi,zvi,zvi,zvs,zvs,zvs,zvs,zvs,zvs,zvi,zvi,zvi,zvi,zvi,zvs,zvs,zvs,zvs,zvi,zvi]
abbrev zv7:Value:=.agg #[zvi,zvi,zvi,zvi,zvi,zvi,zvi,zvi,zvi,zvi,zvi]
abbrev zv8:Value:=.agg #[zvi,zvi,zvi,zvi,zvi,zvi,zvi,zvi,zvi,zvi,zvi,zvi,zvi,zvi,zvi,zvi]
abbrev zv9:Value:=.agg #[.bool false,zvs,zvs,zvs,zvi,zvi,zvi,zvi,zvi,zvs,zvs,zvs,zvs,zvs,zvs,zvi,zvi,zvi,zvi,zvi,zvs,zvs,zvs,zvs,zvs,zvs,zvi,zvi,zvi,zvi,zvi,zvs,zvs,zvs,zvs,zvi,zvi,zvs,zvs]
abbrev zv10:Value:=.agg #[zvi,zvi,zvi,zvi]
abbrev zv11:Value:=.agg #[zvi,zvi,zvi,zvi,zvi,zvi,zvi,zvi,zvi,zvi,zvi,zvi,zvs]
abbrev zv12:Value:=.agg #[zvi,zvi,zvi,zvi,zvi,zvi,zvi,zvi,zvi,zvi,zvi,zvi,zvi,zvi,zvi,zvi,zvi,zvi]
abbrev zv13:Value:=.agg #[zvi,zvi,zvs]
abbrev zv14:Value:=.agg #[zvs]
abbrev zv15:Value:=.agg #[zvs,zvs,zvs,zvs,zvs]
abbrev zv16:Value:=.agg #[.pointer none,.pointer none,.pointer none,.string ⟨#[]⟩]
abbrev zv17:Value:=.agg #[.int .u64 0,.int .u64 0,.int .u32 0,.int .u8 0,.int .u8 0,.int .u8 0,.int .u8 0,.nilFunc,.pointer none,.int .i32 0,.int .i32 0]
instance ti1:zvU 1:=Qv .nilFunc 1 8 underlying1
instance ti2:zvU 2:=Qv zvi 1 8 underlying2
instance ti3:zvU 3:=Qv zvi 1 8 underlying3
instance ti4:zvU 4:=Qv (.bool false) 1 1 underlying4
instance ti5:zvU 5:=Qv (.int .u8 0) 1 1 underlying5
instance ti6:zvU 6:=Qv (.int .u8 0) 1 1 underlying6
instance ti7:zvU 7:=Qv zv0 4 24 underlying7
instance ti8:zvU 8:=Qv zv0 4 24 underlying8
instance ti9:zvU 9:=Qv (.string ⟨#[]⟩) 1 16 underlying9
instance ti10:zvU 10:=Qv (.string ⟨#[]⟩) 1 16 underlying10
instance ti11:zvU 11:=Qv (.string ⟨#[]⟩) 1 16 underlying11
instance ti12:zvU 12:=Qv (.int .u64 0) 1 8 underlying12
instance ti13:zvU 13:=Qv zv1 2 24 underlying13
instance ti14:zvU 14:=Qv zv1 2 24 underlying14
instance ti15:zvU 15:=Qv (.pointer none) 1 8 underlying15
instance ti16:zvU 16:=Qv (.pointer none) 1 8 underlying16
instance ti17:zvU 17:=Qv (.pointer none) 1 8 underlying17
instance ti18:zvU 18:=Qv (.agg #[.pointer none]) 1 8 underlying18
instance ti19:zvU 19:=Qv (.agg #[.pointer none]) 1 8 underlying19
instance ti21:zvU 21:=Qv (.int .i32 0) 1 4 underlying21
instance ti22:zvU 22:=Qv zvs 1 24 underlying22
instance ti23:zvU 23:=Qv zvs 1 24 underlying23
instance ti24:zvU 24:=Qv zvs 1 24 underlying24
instance ti25:zvU 25:=Qv zv2 2 48 underlying25
instance ti26:zvU 26:=Qv zv2 2 48 underlying26
instance ti27:zvU 27:=Qv zvs 1 24 underlying27
instance ti28:zvU 28:=Qv zv3 3 24 underlying28
instance ti29:zvU 29:=Qv zv3 3 24 underlying29
instance ti30:zvU 30:=Qv zvs 1 24 underlying30
instance ti31:zvU 31:=Qv zvs 1 24 underlying31
instance ti32:zvU 32:=Qv zvs 1 24 underlying32
instance ti33:zvU 33:=Qv zv4 11 184 underlying33
instance ti34:zvU 34:=Qv zv4 11 184 underlying34
instance ti35:zvU 35:=Qv zv5 3 40 underlying35
instance ti36:zvU 36:=Qv zv5 3 40 underlying36
instance ti37:zvU 37:=Qv zv6 25 408 underlying37
instance ti38:zvU 38:=Qv zv6 25 408 underlying38
instance ti39:zvU 39:=Qv zv7 11 88 underlying39
instance ti40:zvU 40:=Qv zv7 11 88 underlying40
instance ti41:zvU 41:=Qv zv8 16 128 underlying41
instance ti42:zvU 42:=Qv zv8 16 128 underlying42
instance ti53:zvU 53:=Qv zv9 39 648 underlying53
instance ti54:zvU 54:=Qv zv9 39 648 underlying54
instance ti55:zvU 55:=Qv zvs 1 24 underlying55
instance ti61:zvU 61:=Qv zv10 4 32 underlying61
instance ti62:zvU 62:=Qv zv10 4 32 underlying62
instance ti65:zvU 65:=Qv zv11 13 120 underlying65
instance ti66:zvU 66:=Qv zv11 13 120 underlying66
instance ti71:zvU 71:=Qv zvs 1 24 underlying71
instance ti72:zvU 72:=Qv zv2 2 48 underlying72
instance ti73:zvU 73:=Qv zv2 2 48 underlying73
instance ti74:zvU 74:=Qv zv3 3 24 underlying74
instance ti75:zvU 75:=Qv zvs 1 24 underlying75
instance ti76:zvU 76:=Qv zvs 1 24 underlying76
instance ti77:zvU 77:=Qv zvs 1 24 underlying77
instance ti78:zvU 78:=Qv zv4 11 184 underlying78
instance ti79:zvU 79:=Qv zv4 11 184 underlying79
instance ti80:zvU 80:=Qv zv5 3 40 underlying80
instance ti81:zvU 81:=Qv zv6 25 408 underlying81
instance ti82:zvU 82:=Qv zv6 25 408 underlying82
instance ti83:zvU 83:=Qv zv9 39 648 underlying83
instance ti84:zvU 84:=Qv zv9 39 648 underlying84
instance ti85:zvU 85:=Qv zvs 1 24 underlying85
instance ti95:zvU 95:=Qv (.pointer none) 1 8 underlying95
instance ti107:zvU 107:=Qv zvs 1 24 underlying107
instance ti118:zvU 118:=Qv zv12 18 144 underlying118
instance ti119:zvU 119:=Qv zv12 18 144 underlying119
instance ti122:zvU 122:=Qv zv3 3 24 underlying122
instance ti123:zvU 123:=Qv zv3 3 24 underlying123
instance ti124:zvU 124:=Qv zvs 1 24 underlying124
instance ti126:zvU 126:=Qv zv13 3 40 underlying126
instance ti127:zvU 127:=Qv zv13 3 40 underlying127
instance ti145:zvU 145:=Qv zv7 11 88 underlying145
instance ti146:zvU 146:=Qv zv7 11 88 underlying146
instance ti147:zvU 147:=Qv zv8 16 128 underlying147
instance ti148:zvU 148:=Qv zv8 16 128 underlying148
instance ti149:zvU 149:=Qv zv12 18 144 underlying149
instance ti150:zvU 150:=Qv zv12 18 144 underlying150
instance ti157:zvU 157:=Qv zv5 3 40 underlying157
instance ti158:zvU 158:=Qv zv5 3 40 underlying158
instance ti175:zvU 175:=Qv zvs 1 24 underlying175
instance ti176:zvU 176:=Qv zvs 1 24 underlying176
instance ti177:zvU 177:=Qv zv14 1 24 underlying177
instance ti178:zvU 178:=Qv zv14 1 24 underlying178
instance ti179:zvU 179:=Qv zv15 5 120 underlying179
instance ti180:zvU 180:=Qv zv15 5 120 underlying180
instance ti190:zvU 190:=Qv .nilFunc 1 8 underlying190
instance ti227:zvU 227:=Qv .nilFunc 1 8 underlying227
instance ti228:zvU 228:=Qv (.int .u64 0) 1 8 underlying228
instance ti243:zvU 243:=Qv .nilFunc 1 8 underlying243
instance ti255:zvU 255:=Qv zv11 13 120 underlying255
instance ti256:zvU 256:=Qv zv11 13 120 underlying256
instance ti261:zvU 261:=Qv zv3 3 24 underlying261
instance ti266:zvU 266:=Qv .nilFunc 1 8 underlying266
instance ti277:zvU 277:=Qv .nilFunc 1 8 underlying277
instance ti280:zvU 280:=Qv .nilFunc 1 8 underlying280
instance ti281:zvU 281:=Qv zv10 4 32 underlying281
instance ti282:zvU 282:=Qv zv10 4 32 underlying282
instance ti292:zvU 292:=Qv zv10 4 32 underlying292
instance ti293:zvU 293:=Qv zv10 4 32 underlying293
instance ti296:zvU 296:=Qv (.pointer none) 1 8 underlying296
instance ti305:zvU 305:=Qv .nilFunc 1 8 underlying305
instance ti316:zvU 316:=Qv zvi 1 8 underlying316
instance ti323:zvU 323:=Qv (.int .u32 0) 1 4 underlying323
instance ti325:zvU 325:=Qv (.int .u64 0) 1 8 underlying325
instance ti336:zvU 336:=Qv (.int .u64 0) 1 8 underlying336
instance ti340:zvU 340:=Qv (.pointer none) 1 8 underlying340
instance ti349:zvU 349:=Qv (.pointer none) 1 8 underlying349
instance ti357:zvU 357:=Qv zv16 4 40 underlying357
instance ti358:zvU 358:=Qv zv16 4 40 underlying358
instance ti360:zvU 360:=Qv (.agg #[]) 0 0 underlying360
instance ti361:zvU 361:=Qv (.agg #[]) 0 0 underlying361
instance ti363:zvU 363:=Qv (.int .u8 0) 1 1 underlying363
instance ti364:zvU 364:=Qv (.int .u8 0) 1 1 underlying364
instance ti365:zvU 365:=Qv .nilFunc 1 8 underlying365
instance ti366:zvU 366:=Qv (.pointer none) 1 8 underlying366
instance ti367:zvU 367:=Qv (.int .i32 0) 1 4 underlying367
instance ti368:zvU 368:=Qv (.int .i32 0) 1 4 underlying368
instance ti369:zvU 369:=Qv zv17 11 48 underlying369
instance ti370:zvU 370:=Qv zv17 11 48 underlying370
def tq(T k:TypeId)(x:TI Tryz.prog k):Option (TI Tryz.prog T):=if h:T=k then some (h▸x)else none
def zvO(T k:TypeId)(x:zvU k)(r:Option (zvU T)):Option (zvU T):=if h:T=k then some (h▸x)else r
def tt(T:TypeId):Option (TI Tryz.prog T):=
 bif Nat.blt T 83 then bif Nat.blt T 32 then bif Nat.blt T 16 then bif Nat.blt T 8 then bif Nat.blt T 4 then zvO T 1 ti1 (zvO T 2 ti2 (tq T 3 ti3))else bif Nat.blt T 6 then zvO T 4 ti4 (tq T 5 ti5)else zvO T 6 ti6 (tq T 7 ti7)else bif Nat.blt T 12 then bif Nat.blt T 10 then zvO T 8 ti8 (tq T 9 ti9)else zvO T 10 ti10 (tq T 11 ti11)else bif Nat.blt T 14 then zvO T 12 ti12 (tq T 13 ti13)else zvO T 14 ti14 (tq T 15 ti15)else bif Nat.blt T 24 then bif Nat.blt T 19 then zvO T 16 ti16 (zvO T 17 ti17 (tq T 18 ti18))else bif Nat.blt T 22 then zvO T 19 ti19 (tq T 21 ti21)else zvO T 22 ti22 (tq T 23 ti23)else bif Nat.blt T 28 then bif Nat.blt T 26 then zvO T 24 ti24 (tq T 25 ti25)else zvO T 26 ti26 (tq T 27 ti27)else bif Nat.blt T 30 then zvO T 28 ti28 (tq T 29 ti29)else zvO T 30 ti30 (tq T 31 ti31)else bif Nat.blt T 62 then bif Nat.blt T 39 then bif Nat.blt T 35 then zvO T 32 ti32 (zvO T 33 ti33 (tq T 34 ti34))else bif Nat.blt T 37 then zvO T 35 ti35 (tq T 36 ti36)else zvO T 37 ti37 (tq T 38 ti38)else bif Nat.blt T 53 then bif Nat.blt T 41 then zvO T 39 ti39 (tq T 40 ti40)else zvO T 41 ti41 (tq T 42 ti42)else bif Nat.blt T 55 then zvO T 53 ti53 (tq T 54 ti54)else zvO T 55 ti55 (tq T 61 ti61)else bif Nat.blt T 75 then bif Nat.blt T 71 then zvO T 62 ti62 (zvO T 65 ti65 (tq T 66 ti66))else bif Nat.blt T 73 then zvO T 71 ti71 (tq T 72 ti72)else zvO T 73 ti73 (tq T 74 ti74)else bif Nat.blt T 79 then bif Nat.blt T 77 then zvO T 75 ti75 (tq T 76 ti76)else zvO T 77 ti77 (tq T 78 ti78)else bif Nat.blt T 81 then zvO T 79 ti79 (tq T 80 ti80)else zvO T 81 ti81 (tq T 82 ti82)else bif Nat.blt T 255 then bif Nat.blt T 148 then bif Nat.blt T 122 then bif Nat.blt T 95 then zvO T 83 ti83 (zvO T 84 ti84 (tq T 85 ti85))else bif Nat.blt T 118 then zvO T 95 ti95 (tq T 107 ti107)else zvO T 118 ti118 (tq T 119 ti119)else bif Nat.blt T 127 then bif Nat.blt T 124 then zvO T 122 ti122 (tq T 123 ti123)else zvO T 124 ti124 (tq T 126 ti126)else bif Nat.blt T 146 then zvO T 127 ti127 (tq T 145 ti145)else zvO T 146 ti146 (tq T 147 ti147)else bif Nat.blt T 177 then bif Nat.blt T 157 then zvO T 148 ti148 (zvO T 149 ti149 (tq T 150 ti150))else bif Nat.blt T 175 then zvO T 157 ti157 (tq T 158 ti158)else zvO T 175 ti175 (tq T 176 ti176)else bif Nat.blt T 190 then bif Nat.blt T 179 then zvO T 177 ti177 (tq T 178 ti178)else zvO T 179 ti179 (tq T 180 ti180)else bif Nat.blt T 228 then zvO T 190 ti190 (tq T 227 ti227)else zvO T 228 ti228 (tq T 243 ti243)else bif Nat.blt T 336 then bif Nat.blt T 282 then bif Nat.blt T 266 then zvO T 255 ti255 (zvO T 256 ti256 (tq T 261 ti261))else bif Nat.blt T 280 then zvO T 266 ti266 (tq T 277 ti277)else zvO T 280 ti280 (tq T 281 ti281)else bif Nat.blt T 305 then bif Nat.blt T 293 then zvO T 282 ti282 (tq T 292 ti292)else zvO T 293 ti293 (tq T 296 ti296)else bif Nat.blt T 323 then zvO T 305 ti305 (tq T 316 ti316)else zvO T 323 ti323 (tq T 325 ti325)else bif Nat.blt T 363 then bif Nat.blt T 357 then zvO T 336 ti336 (zvO T 340 ti340 (tq T 349 ti349))else bif Nat.blt T 360 then zvO T 357 ti357 (tq T 358 ti358)else zvO T 360 ti360 (tq T 361 ti361)else bif Nat.blt T 367 then bif Nat.blt T 365 then zvO T 363 ti363 (tq T 364 ti364)else zvO T 365 ti365 (tq T 366 ti366)else bif Nat.blt T 369 then zvO T 367 ti367 (tq T 368 ti368)else zvO T 369 ti369 (tq T 370 ti370)
def nsL:List Nat:=[26,26,29,29,34,34,36,36,38,38,40,40,42,42,54,54,62,62,66,66,73,73,74,74,79,79,80,80,82,82,84,84,119,119,123,123,127,127,146,146,148,148,150,150,158,158,178,178,180,180,256,256,261,261,282,282,293,293]
theorem QrQ:(nsL.all fun T=>!Tryz.prog.stoodInHeld T)=true:=by kernel_rfl
end
end Go.Proofs.YtkdniahincpmaaaGreat
