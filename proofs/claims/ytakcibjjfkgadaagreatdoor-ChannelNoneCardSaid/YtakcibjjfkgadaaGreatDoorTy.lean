/- Facts on the types of the loaded program. -/
import Derived.Test.YtakcibjjfkgadaaGreatDoorEvZ
import Derived.Test.YtakcibjjfkgadaaGreatDoorProg
import Derived.KernelRfl
set_option linter.unusedVariables false
set_option linter.unusedSimpArgs false
namespace Go.Proofs.YtakcibjjfkgadaaGreatDoor
open Go.Ev
set_option maxRecDepth 100000
@[go_sem] theorem zero2 : tZero Tryz.prog 2 = some [.int .i64 0] := by kernel_rfl
@[go_sem] theorem zero3 : tZero Tryz.prog 3 = some [.int .i64 0] := by kernel_rfl
@[go_sem] theorem zero4 : tZero Tryz.prog 4 = some [.bool false] := by kernel_rfl
@[go_sem] theorem zero23 : tZero Tryz.prog 23 = some [.int .i64 0, .int .i64 0, .int .i64 0] := by kernel_rfl
@[go_sem] theorem zero25 : tZero Tryz.prog 25 = some [.int .i64 0, .int .i64 0, .int .i64 0, .int .i64 0, .int .i64 0, .int .i64 0, .int .i64 0, .int .i64 0, .int .i64 0, .int .i64 0, .int .i64 0, .int .i64 0, .int .i64 0, .int .i64 0, .int .i64 0, .int .i64 0, .int .i64 0, .int .i64 0, .int .i64 0, .int .i64 0, .int .i64 0, .int .i64 0, .int .i64 0, .int .i64 0, .int .i64 0, .int .i64 0, .int .i64 0, .int .i64 0, .int .i64 0, .int .i64 0, .int .i64 0] := by kernel_rfl
@[go_sem] theorem zero36 : tZero Tryz.prog 36 = some [.int .i64 0, .bool false, .bool false, .bool false, .bool false, .bool false, .int .i64 0, .int .i64 0, .int .i64 0] := by kernel_rfl
@[go_sem] theorem zero39 : tZero Tryz.prog 39 = some [.int .i64 0, .bool false, .int .i64 0, .bool false] := by kernel_rfl
@[go_sem] theorem zero45 : tZero Tryz.prog 45 = some [.int .i64 0, .int .i64 0, .int .i64 0, .int .i64 0, .int .i64 0, .int .i64 0] := by kernel_rfl
@[go_sem] theorem zero49 : tZero Tryz.prog 49 = some [.int .i64 0, .int .i64 0, .int .i64 0, .int .i64 0, .int .i64 0, .int .i64 0, .int .i64 0, .int .i64 0, .int .i64 0] := by kernel_rfl
@[go_sem] theorem zero53 : tZero Tryz.prog 53 = some [.int .i64 0, .int .i64 0] := by kernel_rfl
@[go_sem] theorem zero55 : tZero Tryz.prog 55 = some [.int .i64 0, .int .i64 0, .int .i64 0, .int .i64 0, .int .i64 0, .int .i64 0, .int .i64 0, .int .i64 0, .int .i64 0, .int .i64 0, .int .i64 0, .int .i64 0, .int .i64 0, .int .i64 0, .int .i64 0, .int .i64 0, .int .i64 0, .int .i64 0, .int .i64 0, .int .i64 0, .int .i64 0, .int .i64 0, .int .i64 0, .int .i64 0, .int .i64 0, .int .i64 0, .int .i64 0, .int .i64 0, .int .i64 0, .int .i64 0, .int .i64 0, .int .i64 0, .int .i64 0, .int .i64 0, .int .i64 0, .int .i64 0, .int .i64 0, .int .i64 0, .int .i64 0, .int .i64 0, .raw (.pointer none), .raw (.slice none 0 0), .raw (.pointer none), .int .i64 0, .int .i64 0] := by kernel_rfl
@[go_sem] theorem zero77 : tZero Tryz.prog 77 = some [.int .i64 0, .raw .nilFunc] := by kernel_rfl
@[go_sem] theorem zero78 : tZero Tryz.prog 78 = some [.int .i64 0, .raw .nilFunc, .int .i64 0, .raw .nilFunc, .int .i64 0, .raw .nilFunc, .int .i64 0, .raw .nilFunc, .int .i64 0, .raw .nilFunc, .int .i64 0, .raw .nilFunc, .int .i64 0, .raw .nilFunc, .int .i64 0, .raw .nilFunc, .int .i64 0, .raw .nilFunc, .int .i64 0, .raw .nilFunc, .int .i64 0, .raw .nilFunc, .int .i64 0, .raw .nilFunc, .int .i64 0, .raw .nilFunc, .int .i64 0, .raw .nilFunc] := by kernel_rfl
@[go_sem] theorem zero94 : tZero Tryz.prog 94 = some [.bool false, .raw (.slice none 0 0)] := by kernel_rfl
@[go_sem] theorem zero110 : tZero Tryz.prog 110 = some [.int .i64 0, .int .i64 0, .int .i64 0, .int .i64 0, .bool false] := by kernel_rfl
@[go_sem] theorem zero117 : tZero Tryz.prog 117 = some [.int .i64 0, .int .i64 0, .int .i64 0, .int .i64 0, .int .i64 0, .int .i64 0, .int .i64 0, .int .i64 0, .int .i64 0, .int .i64 0, .int .i64 0, .int .i64 0, .int .i64 0, .int .i64 0, .int .i64 0, .int .i64 0, .int .i64 0, .int .i64 0, .int .i64 0, .int .i64 0, .int .i64 0, .int .i64 0, .int .i64 0, .int .i64 0, .int .i64 0, .int .i64 0, .int .i64 0, .int .i64 0, .int .i64 0, .int .i64 0, .int .i64 0, .int .i64 0, .int .i64 0] := by kernel_rfl
@[go_sem] theorem zero139 : tZero Tryz.prog 139 = some [.int .i64 0, .int .u64 0] := by kernel_rfl
@[go_sem] theorem zero160 : tZero Tryz.prog 160 = some [.int .i64 0, .int .u64 0, .int .i64 0, .int .u64 0, .int .i64 0, .int .u64 0, .int .i64 0, .int .u64 0, .int .i64 0, .int .u64 0, .int .i64 0, .int .u64 0] := by kernel_rfl
@[go_sem] theorem zero169 : tZero Tryz.prog 169 = some [.raw .nilFunc] := by kernel_rfl
@[go_sem] theorem agg2 : tAgg Tryz.prog 2 = some false := by kernel_rfl
@[go_sem] theorem sz2 : tSz Tryz.prog 2 = some 1 := by kernel_rfl
@[go_sem] theorem agg3 : tAgg Tryz.prog 3 = some false := by kernel_rfl
@[go_sem] theorem sz3 : tSz Tryz.prog 3 = some 1 := by kernel_rfl
@[go_sem] theorem agg4 : tAgg Tryz.prog 4 = some false := by kernel_rfl
@[go_sem] theorem sz4 : tSz Tryz.prog 4 = some 1 := by kernel_rfl
@[go_sem] theorem agg5 : tAgg Tryz.prog 5 = some false := by kernel_rfl
@[go_sem] theorem sz5 : tSz Tryz.prog 5 = some 1 := by kernel_rfl
@[go_sem] theorem agg22 : tAgg Tryz.prog 22 = some true := by kernel_rfl
@[go_sem] theorem sz22 : tSz Tryz.prog 22 = some 3 := by kernel_rfl
@[go_sem] theorem agg23 : tAgg Tryz.prog 23 = some true := by kernel_rfl
@[go_sem] theorem sz23 : tSz Tryz.prog 23 = some 3 := by kernel_rfl
@[go_sem] theorem agg25 : tAgg Tryz.prog 25 = some true := by kernel_rfl
@[go_sem] theorem sz25 : tSz Tryz.prog 25 = some 31 := by kernel_rfl
@[go_sem] theorem agg36 : tAgg Tryz.prog 36 = some true := by kernel_rfl
@[go_sem] theorem sz36 : tSz Tryz.prog 36 = some 9 := by kernel_rfl
@[go_sem] theorem agg39 : tAgg Tryz.prog 39 = some true := by kernel_rfl
@[go_sem] theorem sz39 : tSz Tryz.prog 39 = some 4 := by kernel_rfl
@[go_sem] theorem agg42 : tAgg Tryz.prog 42 = some false := by kernel_rfl
@[go_sem] theorem sz42 : tSz Tryz.prog 42 = some 1 := by kernel_rfl
@[go_sem] theorem agg45 : tAgg Tryz.prog 45 = some true := by kernel_rfl
@[go_sem] theorem sz45 : tSz Tryz.prog 45 = some 6 := by kernel_rfl
@[go_sem] theorem agg49 : tAgg Tryz.prog 49 = some true := by kernel_rfl
@[go_sem] theorem sz49 : tSz Tryz.prog 49 = some 9 := by kernel_rfl
@[go_sem] theorem agg50 : tAgg Tryz.prog 50 = some false := by kernel_rfl
@[go_sem] theorem sz50 : tSz Tryz.prog 50 = some 1 := by kernel_rfl
@[go_sem] theorem agg51 : tAgg Tryz.prog 51 = some false := by kernel_rfl
@[go_sem] theorem sz51 : tSz Tryz.prog 51 = some 1 := by kernel_rfl
@[go_sem] theorem agg53 : tAgg Tryz.prog 53 = some true := by kernel_rfl
@[go_sem] theorem sz53 : tSz Tryz.prog 53 = some 2 := by kernel_rfl
@[go_sem] theorem agg55 : tAgg Tryz.prog 55 = some true := by kernel_rfl
@[go_sem] theorem sz55 : tSz Tryz.prog 55 = some 45 := by kernel_rfl
@[go_sem] theorem agg75 : tAgg Tryz.prog 75 = some false := by kernel_rfl
@[go_sem] theorem sz75 : tSz Tryz.prog 75 = some 1 := by kernel_rfl
@[go_sem] theorem agg77 : tAgg Tryz.prog 77 = some true := by kernel_rfl
@[go_sem] theorem sz77 : tSz Tryz.prog 77 = some 2 := by kernel_rfl
@[go_sem] theorem agg78 : tAgg Tryz.prog 78 = some true := by kernel_rfl
@[go_sem] theorem sz78 : tSz Tryz.prog 78 = some 28 := by kernel_rfl
@[go_sem] theorem agg92 : tAgg Tryz.prog 92 = some false := by kernel_rfl
@[go_sem] theorem sz92 : tSz Tryz.prog 92 = some 1 := by kernel_rfl
@[go_sem] theorem agg94 : tAgg Tryz.prog 94 = some true := by kernel_rfl
@[go_sem] theorem sz94 : tSz Tryz.prog 94 = some 2 := by kernel_rfl
@[go_sem] theorem agg110 : tAgg Tryz.prog 110 = some true := by kernel_rfl
@[go_sem] theorem sz110 : tSz Tryz.prog 110 = some 5 := by kernel_rfl
@[go_sem] theorem agg115 : tAgg Tryz.prog 115 = some true := by kernel_rfl
@[go_sem] theorem sz115 : tSz Tryz.prog 115 = some 2 := by kernel_rfl
@[go_sem] theorem agg117 : tAgg Tryz.prog 117 = some true := by kernel_rfl
@[go_sem] theorem sz117 : tSz Tryz.prog 117 = some 33 := by kernel_rfl
@[go_sem] theorem agg122 : tAgg Tryz.prog 122 = some false := by kernel_rfl
@[go_sem] theorem sz122 : tSz Tryz.prog 122 = some 1 := by kernel_rfl
@[go_sem] theorem agg137 : tAgg Tryz.prog 137 = some false := by kernel_rfl
@[go_sem] theorem sz137 : tSz Tryz.prog 137 = some 1 := by kernel_rfl
@[go_sem] theorem agg139 : tAgg Tryz.prog 139 = some true := by kernel_rfl
@[go_sem] theorem sz139 : tSz Tryz.prog 139 = some 2 := by kernel_rfl
@[go_sem] theorem agg155 : tAgg Tryz.prog 155 = some true := by kernel_rfl
@[go_sem] theorem sz155 : tSz Tryz.prog 155 = some 47 := by kernel_rfl
@[go_sem] theorem agg160 : tAgg Tryz.prog 160 = some true := by kernel_rfl
@[go_sem] theorem sz160 : tSz Tryz.prog 160 = some 12 := by kernel_rfl
@[go_sem] theorem agg167 : tAgg Tryz.prog 167 = some false := by kernel_rfl
@[go_sem] theorem sz167 : tSz Tryz.prog 167 = some 1 := by kernel_rfl
@[go_sem] theorem agg169 : tAgg Tryz.prog 169 = some true := by kernel_rfl
@[go_sem] theorem sz169 : tSz Tryz.prog 169 = some 1 := by kernel_rfl
@[go_sem] theorem agg199 : tAgg Tryz.prog 199 = some true := by kernel_rfl
@[go_sem] theorem sz199 : tSz Tryz.prog 199 = some 9 := by kernel_rfl
@[go_sem] theorem agg201 : tAgg Tryz.prog 201 = some true := by kernel_rfl
@[go_sem] theorem sz201 : tSz Tryz.prog 201 = some 9 := by kernel_rfl
@[go_sem] theorem zero22 : tZero Tryz.prog 22 = some [.int .i64 0, .int .i64 0, .int .i64 0] := by kernel_rfl
@[go_sem] theorem arr22 : tArr Tryz.prog 22 = some (3, 2) := by kernel_rfl
@[go_sem] theorem arr23 : tArr Tryz.prog 23 = some (3, 2) := by kernel_rfl
@[go_sem] theorem arr25 : tArr Tryz.prog 25 = none := by kernel_rfl
@[go_sem] theorem pl25 : tPl Tryz.prog 25 = some [(0, 3), (3, 3), (6, 1), (7, 1), (8, 3), (11, 3), (14, 3), (17, 3), (20, 1), (21, 3), (24, 1), (25, 1), (26, 1), (27, 1), (28, 1), (29, 1), (30, 1)] := by kernel_rfl
@[go_sem] theorem arr36 : tArr Tryz.prog 36 = none := by kernel_rfl
@[go_sem] theorem pl36 : tPl Tryz.prog 36 = some [(0, 1), (1, 1), (2, 1), (3, 1), (4, 1), (5, 1), (6, 1), (7, 1), (8, 1)] := by kernel_rfl
@[go_sem] theorem arr39 : tArr Tryz.prog 39 = none := by kernel_rfl
@[go_sem] theorem pl39 : tPl Tryz.prog 39 = some [(0, 1), (1, 1), (2, 1), (3, 1)] := by kernel_rfl
@[go_sem] theorem arr45 : tArr Tryz.prog 45 = some (6, 2) := by kernel_rfl
@[go_sem] theorem arr49 : tArr Tryz.prog 49 = none := by kernel_rfl
@[go_sem] theorem pl49 : tPl Tryz.prog 49 = some [(0, 3), (3, 6)] := by kernel_rfl
@[go_sem] theorem arr53 : tArr Tryz.prog 53 = none := by kernel_rfl
@[go_sem] theorem pl53 : tPl Tryz.prog 53 = some [(0, 1), (1, 1)] := by kernel_rfl
@[go_sem] theorem arr55 : tArr Tryz.prog 55 = none := by kernel_rfl
@[go_sem] theorem pl55 : tPl Tryz.prog 55 = some [(0, 9), (9, 31), (40, 1), (41, 1), (42, 1), (43, 2)] := by kernel_rfl
@[go_sem] theorem arr77 : tArr Tryz.prog 77 = none := by kernel_rfl
@[go_sem] theorem pl77 : tPl Tryz.prog 77 = some [(0, 1), (1, 1)] := by kernel_rfl
@[go_sem] theorem arr78 : tArr Tryz.prog 78 = some (14, 77) := by kernel_rfl
@[go_sem] theorem arr94 : tArr Tryz.prog 94 = none := by kernel_rfl
@[go_sem] theorem pl94 : tPl Tryz.prog 94 = some [(0, 1), (1, 1)] := by kernel_rfl
@[go_sem] theorem arr110 : tArr Tryz.prog 110 = none := by kernel_rfl
@[go_sem] theorem pl110 : tPl Tryz.prog 110 = some [(0, 1), (1, 1), (2, 1), (3, 1), (4, 1)] := by kernel_rfl
@[go_sem] theorem zero115 : tZero Tryz.prog 115 = some [.int .i64 0, .int .i64 0] := by kernel_rfl
@[go_sem] theorem arr115 : tArr Tryz.prog 115 = none := by kernel_rfl
@[go_sem] theorem pl115 : tPl Tryz.prog 115 = some [(0, 1), (1, 1)] := by kernel_rfl
@[go_sem] theorem arr117 : tArr Tryz.prog 117 = none := by kernel_rfl
@[go_sem] theorem pl117 : tPl Tryz.prog 117 = some [(0, 2), (2, 31)] := by kernel_rfl
@[go_sem] theorem arr139 : tArr Tryz.prog 139 = none := by kernel_rfl
@[go_sem] theorem pl139 : tPl Tryz.prog 139 = some [(0, 1), (1, 1)] := by kernel_rfl
@[go_sem] theorem zero155 : tZero Tryz.prog 155 = some [.int .i64 0, .int .i64 0, .int .i64 0, .int .i64 0, .int .i64 0, .int .i64 0, .int .i64 0, .int .i64 0, .int .i64 0, .int .i64 0, .int .i64 0, .int .i64 0, .int .i64 0, .int .i64 0, .int .i64 0, .int .i64 0, .int .i64 0, .int .i64 0, .int .i64 0, .int .i64 0, .int .i64 0, .int .i64 0, .int .i64 0, .int .i64 0, .int .i64 0, .int .i64 0, .int .i64 0, .int .i64 0, .int .i64 0, .int .i64 0, .int .i64 0, .int .i64 0, .int .i64 0, .int .i64 0, .int .i64 0, .int .i64 0, .int .i64 0, .int .i64 0, .int .i64 0, .int .i64 0, .int .i64 0, .int .i64 0, .int .i64 0, .int .i64 0, .int .i64 0, .int .i64 0, .int .i64 0] := by kernel_rfl
@[go_sem] theorem arr155 : tArr Tryz.prog 155 = some (47, 2) := by kernel_rfl
@[go_sem] theorem arr169 : tArr Tryz.prog 169 = none := by kernel_rfl
@[go_sem] theorem pl169 : tPl Tryz.prog 169 = some [(0, 1)] := by kernel_rfl
@[go_sem] theorem zero198 : tZero Tryz.prog 198 = some [.int .i64 0, .int .i64 0, .int .i64 0] := by kernel_rfl
@[go_sem] theorem arr198 : tArr Tryz.prog 198 = some (3, 3) := by kernel_rfl
@[go_sem] theorem zero199 : tZero Tryz.prog 199 = some [.int .i64 0, .int .i64 0, .int .i64 0, .int .i64 0, .int .i64 0, .int .i64 0, .int .i64 0, .int .i64 0, .int .i64 0] := by kernel_rfl
@[go_sem] theorem arr199 : tArr Tryz.prog 199 = some (3, 198) := by kernel_rfl
@[go_sem] theorem agg198 : tAgg Tryz.prog 198 = some true := by kernel_rfl
@[go_sem] theorem sz198 : tSz Tryz.prog 198 = some 3 := by kernel_rfl
@[go_sem] theorem zero201 : tZero Tryz.prog 201 = some [.int .i64 0, .int .i64 0, .int .i64 0, .int .i64 0, .int .i64 0, .int .i64 0, .int .i64 0, .int .i64 0, .int .i64 0] := by kernel_rfl
@[go_sem] theorem arr201 : tArr Tryz.prog 201 = some (3, 22) := by kernel_rfl
@[go_sem] theorem slc42 : tSlc Tryz.prog 42 = some 2 := by kernel_rfl
@[go_sem] theorem slc62 : tSlc Tryz.prog 62 = some 39 := by kernel_rfl
@[go_sem] theorem slc69 : tSlc Tryz.prog 69 = some 36 := by kernel_rfl
@[go_sem] theorem slc92 : tSlc Tryz.prog 92 = some 137 := by kernel_rfl
@[go_sem] theorem zero137 : tZero Tryz.prog 137 = some [.int .u64 0] := by kernel_rfl
@[go_sem] theorem slc182 : tSlc Tryz.prog 182 = some 139 := by kernel_rfl
@[go_sem] theorem slc194 : tSlc Tryz.prog 194 = some 122 := by kernel_rfl
@[go_sem] theorem zero122 : tZero Tryz.prog 122 = some [.raw .nilFunc] := by kernel_rfl
@[go_sem] theorem slc202 : tSlc Tryz.prog 202 = some 3 := by kernel_rfl
@[go_sem] theorem int2 : tInt Tryz.prog 2 = some .i64 := by kernel_rfl
@[go_sem] theorem int3 : tInt Tryz.prog 3 = some .i64 := by kernel_rfl
@[go_sem] theorem int5 : tInt Tryz.prog 5 = some .u8 := by kernel_rfl
@[go_sem] theorem int58 : tInt Tryz.prog 58 = some .u16 := by kernel_rfl
@[go_sem] theorem int137 : tInt Tryz.prog 137 = some .u64 := by kernel_rfl
@[go_sem] theorem arr2 : tArr Tryz.prog 2 = none := by kernel_rfl
@[go_sem] theorem slc2 : tSlc Tryz.prog 2 = none := by kernel_rfl
@[go_sem] theorem str2 : tStr Tryz.prog 2 = false := by kernel_rfl
@[go_sem] theorem arr26 : tArr Tryz.prog 26 = some (16, 2) := by kernel_rfl
@[go_sem] theorem arr27 : tArr Tryz.prog 27 = none := by kernel_rfl
@[go_sem] theorem slc27 : tSlc Tryz.prog 27 = some 5 := by kernel_rfl
@[go_sem] theorem zero5 : tZero Tryz.prog 5 = some [.int .u8 0] := by kernel_rfl
@[go_sem] theorem str27 : tStr Tryz.prog 27 = false := by kernel_rfl
@[go_sem] theorem arr42 : tArr Tryz.prog 42 = none := by kernel_rfl
@[go_sem] theorem str42 : tStr Tryz.prog 42 = false := by kernel_rfl
@[go_sem] theorem arr62 : tArr Tryz.prog 62 = none := by kernel_rfl
@[go_sem] theorem str62 : tStr Tryz.prog 62 = false := by kernel_rfl
@[go_sem] theorem arr69 : tArr Tryz.prog 69 = none := by kernel_rfl
@[go_sem] theorem str69 : tStr Tryz.prog 69 = false := by kernel_rfl
@[go_sem] theorem arr92 : tArr Tryz.prog 92 = none := by kernel_rfl
@[go_sem] theorem str92 : tStr Tryz.prog 92 = false := by kernel_rfl
@[go_sem] theorem arr160 : tArr Tryz.prog 160 = some (6, 139) := by kernel_rfl
@[go_sem] theorem arr182 : tArr Tryz.prog 182 = none := by kernel_rfl
@[go_sem] theorem str182 : tStr Tryz.prog 182 = false := by kernel_rfl
@[go_sem] theorem arr194 : tArr Tryz.prog 194 = none := by kernel_rfl
@[go_sem] theorem str194 : tStr Tryz.prog 194 = false := by kernel_rfl
@[go_sem] theorem arr202 : tArr Tryz.prog 202 = none := by kernel_rfl
@[go_sem] theorem str202 : tStr Tryz.prog 202 = false := by kernel_rfl
@[go_sem] theorem bool2 : tBool Tryz.prog 2 = false := by kernel_rfl
@[go_sem] theorem bool3 : tBool Tryz.prog 3 = false := by kernel_rfl
@[go_sem] theorem bool4 : tBool Tryz.prog 4 = true := by kernel_rfl
@[go_sem] theorem bool23 : tBool Tryz.prog 23 = false := by kernel_rfl
@[go_sem] theorem eq23 : tEq Tryz.prog 23 = some [(0, EK.int .i64), (1, EK.int .i64), (2, EK.int .i64)] := by kernel_rfl
@[go_sem] theorem bool30 : tBool Tryz.prog 30 = false := by kernel_rfl
@[go_sem] theorem ptr30 : tPtr Tryz.prog 30 = true := by kernel_rfl
@[go_sem] theorem bool31 : tBool Tryz.prog 31 = false := by kernel_rfl
@[go_sem] theorem bool36 : tBool Tryz.prog 36 = false := by kernel_rfl
@[go_sem] theorem eq36 : tEq Tryz.prog 36 = some [(0, EK.int .i64), (1, EK.bool), (2, EK.bool), (3, EK.bool), (4, EK.bool), (5, EK.bool), (6, EK.int .i64), (7, EK.int .i64), (8, EK.int .i64)] := by kernel_rfl
@[go_sem] theorem bool45 : tBool Tryz.prog 45 = false := by kernel_rfl
@[go_sem] theorem eq45 : tEq Tryz.prog 45 = some [(0, EK.int .i64), (1, EK.int .i64), (2, EK.int .i64), (3, EK.int .i64), (4, EK.int .i64), (5, EK.int .i64)] := by kernel_rfl
@[go_sem] theorem bool137 : tBool Tryz.prog 137 = false := by kernel_rfl
@[go_sem] theorem bool139 : tBool Tryz.prog 139 = false := by kernel_rfl
@[go_sem] theorem eq139 : tEq Tryz.prog 139 = some [(0, EK.int .i64), (1, EK.int .u64)] := by kernel_rfl
@[go_sem] theorem fld25x0 : tFld Tryz.prog 25 0 = some (0, 23) := by kernel_rfl
@[go_sem] theorem fld25x1 : tFld Tryz.prog 25 1 = some (3, 23) := by kernel_rfl
@[go_sem] theorem fld25x2 : tFld Tryz.prog 25 2 = some (6, 2) := by kernel_rfl
@[go_sem] theorem fld25x3 : tFld Tryz.prog 25 3 = some (7, 2) := by kernel_rfl
@[go_sem] theorem fld25x4 : tFld Tryz.prog 25 4 = some (8, 23) := by kernel_rfl
@[go_sem] theorem fld25x5 : tFld Tryz.prog 25 5 = some (11, 23) := by kernel_rfl
@[go_sem] theorem fld25x6 : tFld Tryz.prog 25 6 = some (14, 23) := by kernel_rfl
@[go_sem] theorem fld25x7 : tFld Tryz.prog 25 7 = some (17, 23) := by kernel_rfl
@[go_sem] theorem fld25x8 : tFld Tryz.prog 25 8 = some (20, 2) := by kernel_rfl
@[go_sem] theorem fld25x9 : tFld Tryz.prog 25 9 = some (21, 23) := by kernel_rfl
@[go_sem] theorem fld25x10 : tFld Tryz.prog 25 10 = some (24, 2) := by kernel_rfl
@[go_sem] theorem fld25x11 : tFld Tryz.prog 25 11 = some (25, 2) := by kernel_rfl
@[go_sem] theorem fld25x12 : tFld Tryz.prog 25 12 = some (26, 2) := by kernel_rfl
@[go_sem] theorem fld25x13 : tFld Tryz.prog 25 13 = some (27, 2) := by kernel_rfl
@[go_sem] theorem fld25x14 : tFld Tryz.prog 25 14 = some (28, 2) := by kernel_rfl
@[go_sem] theorem fld25x15 : tFld Tryz.prog 25 15 = some (29, 2) := by kernel_rfl
@[go_sem] theorem fld25x16 : tFld Tryz.prog 25 16 = some (30, 2) := by kernel_rfl
@[go_sem] theorem fld36x0 : tFld Tryz.prog 36 0 = some (0, 3) := by kernel_rfl
@[go_sem] theorem fld36x1 : tFld Tryz.prog 36 1 = some (1, 4) := by kernel_rfl
@[go_sem] theorem fld36x2 : tFld Tryz.prog 36 2 = some (2, 4) := by kernel_rfl
@[go_sem] theorem fld36x3 : tFld Tryz.prog 36 3 = some (3, 4) := by kernel_rfl
@[go_sem] theorem fld36x4 : tFld Tryz.prog 36 4 = some (4, 4) := by kernel_rfl
@[go_sem] theorem fld36x5 : tFld Tryz.prog 36 5 = some (5, 4) := by kernel_rfl
@[go_sem] theorem fld36x6 : tFld Tryz.prog 36 6 = some (6, 2) := by kernel_rfl
@[go_sem] theorem fld36x7 : tFld Tryz.prog 36 7 = some (7, 2) := by kernel_rfl
@[go_sem] theorem fld36x8 : tFld Tryz.prog 36 8 = some (8, 2) := by kernel_rfl
@[go_sem] theorem fld39x0 : tFld Tryz.prog 39 0 = some (0, 2) := by kernel_rfl
@[go_sem] theorem fld39x1 : tFld Tryz.prog 39 1 = some (1, 4) := by kernel_rfl
@[go_sem] theorem fld39x2 : tFld Tryz.prog 39 2 = some (2, 2) := by kernel_rfl
@[go_sem] theorem fld39x3 : tFld Tryz.prog 39 3 = some (3, 4) := by kernel_rfl
@[go_sem] theorem fld49x0 : tFld Tryz.prog 49 0 = some (0, 23) := by kernel_rfl
@[go_sem] theorem fld49x1 : tFld Tryz.prog 49 1 = some (3, 45) := by kernel_rfl
@[go_sem] theorem fld53x0 : tFld Tryz.prog 53 0 = some (0, 3) := by kernel_rfl
@[go_sem] theorem fld53x1 : tFld Tryz.prog 53 1 = some (1, 3) := by kernel_rfl
@[go_sem] theorem fld55x0 : tFld Tryz.prog 55 0 = some (0, 49) := by kernel_rfl
@[go_sem] theorem fld55x1 : tFld Tryz.prog 55 1 = some (9, 25) := by kernel_rfl
@[go_sem] theorem fld55x2 : tFld Tryz.prog 55 2 = some (40, 50) := by kernel_rfl
@[go_sem] theorem fld55x3 : tFld Tryz.prog 55 3 = some (41, 42) := by kernel_rfl
@[go_sem] theorem fld55x4 : tFld Tryz.prog 55 4 = some (42, 51) := by kernel_rfl
@[go_sem] theorem fld55x5 : tFld Tryz.prog 55 5 = some (43, 53) := by kernel_rfl
@[go_sem] theorem fld77x0 : tFld Tryz.prog 77 0 = some (0, 3) := by kernel_rfl
@[go_sem] theorem fld77x1 : tFld Tryz.prog 77 1 = some (1, 75) := by kernel_rfl
@[go_sem] theorem fld94x0 : tFld Tryz.prog 94 0 = some (0, 4) := by kernel_rfl
@[go_sem] theorem fld94x1 : tFld Tryz.prog 94 1 = some (1, 92) := by kernel_rfl
@[go_sem] theorem fld110x0 : tFld Tryz.prog 110 0 = some (0, 2) := by kernel_rfl
@[go_sem] theorem fld110x1 : tFld Tryz.prog 110 1 = some (1, 2) := by kernel_rfl
@[go_sem] theorem fld110x2 : tFld Tryz.prog 110 2 = some (2, 2) := by kernel_rfl
@[go_sem] theorem fld110x3 : tFld Tryz.prog 110 3 = some (3, 2) := by kernel_rfl
@[go_sem] theorem fld110x4 : tFld Tryz.prog 110 4 = some (4, 4) := by kernel_rfl
@[go_sem] theorem fld115x0 : tFld Tryz.prog 115 0 = some (0, 2) := by kernel_rfl
@[go_sem] theorem fld115x1 : tFld Tryz.prog 115 1 = some (1, 2) := by kernel_rfl
@[go_sem] theorem fld117x0 : tFld Tryz.prog 117 0 = some (0, 115) := by kernel_rfl
@[go_sem] theorem fld117x1 : tFld Tryz.prog 117 1 = some (2, 25) := by kernel_rfl
@[go_sem] theorem fld139x0 : tFld Tryz.prog 139 0 = some (0, 2) := by kernel_rfl
@[go_sem] theorem fld139x1 : tFld Tryz.prog 139 1 = some (1, 137) := by kernel_rfl
@[go_sem] theorem fld169x0 : tFld Tryz.prog 169 0 = some (0, 167) := by kernel_rfl

end Go.Proofs.YtakcibjjfkgadaaGreatDoor
