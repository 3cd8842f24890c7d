/- Facts on the types of the loaded program. -/
import Derived.Test.YtmpdlldjekagoaaDoorEvZ
import Derived.Test.YtmpdlldjekagoaaDoorProg
import Derived.KernelRfl
set_option linter.unusedVariables false
set_option linter.unusedSimpArgs false
namespace Go.Proofs.YtmpdlldjekagoaaDoor
open Go.Ev
set_option maxRecDepth 100000
@[go_sem] theorem zero2 : tZero Tryd.prog 2 = some [.int .i64 0] := by kernel_rfl
@[go_sem] theorem zero3 : tZero Tryd.prog 3 = some [.int .i64 0] := by kernel_rfl
@[go_sem] theorem zero23 : tZero Tryd.prog 23 = some [.int .i64 0, .int .i64 0, .int .i64 0, .int .i64 0, .int .i64 0, .int .i64 0] := by kernel_rfl
@[go_sem] theorem zero25 : tZero Tryd.prog 25 = some [.int .i64 0, .int .i64 0, .int .i64 0] := by kernel_rfl
@[go_sem] theorem zero26 : tZero Tryd.prog 26 = some [.int .i64 0] := by kernel_rfl
@[go_sem] theorem zero33 : tZero Tryd.prog 33 = some [.int .i64 0, .int .u64 0] := by kernel_rfl
@[go_sem] theorem zero34 : tZero Tryd.prog 34 = some [.int .i64 0, .int .u64 0, .int .i64 0, .int .u64 0, .int .i64 0, .int .u64 0, .int .i64 0, .int .u64 0, .int .i64 0, .int .u64 0, .int .i64 0, .int .u64 0] := by kernel_rfl
@[go_sem] theorem zero42 : tZero Tryd.prog 42 = some [.bool false, .raw (.slice none 0 0)] := by kernel_rfl
@[go_sem] theorem zero57 : tZero Tryd.prog 57 = some [.int .i64 0, .int .i64 0, .int .i64 0, .int .i64 0, .int .i64 0, .int .i64 0, .int .i64 0, .int .i64 0, .int .i64 0, .int .i64 0, .int .i64 0, .int .i64 0, .int .i64 0, .int .i64 0, .int .i64 0, .int .i64 0, .int .i64 0, .int .i64 0, .int .i64 0, .int .i64 0, .int .i64 0, .int .i64 0, .int .i64 0, .int .i64 0, .int .i64 0, .int .i64 0, .int .i64 0, .int .i64 0, .int .i64 0, .int .i64 0, .int .i64 0] := by kernel_rfl
@[go_sem] theorem zero100 : tZero Tryd.prog 100 = some [.raw (.pointer none), .raw (.slice none 0 0)] := by kernel_rfl
@[go_sem] theorem zero106 : tZero Tryd.prog 106 = some [.raw (.string ByteArray.empty), .raw (.slice none 0 0)] := by kernel_rfl
@[go_sem] theorem zero115 : tZero Tryd.prog 115 = some [] := by kernel_rfl
@[go_sem] theorem zero168 : tZero Tryd.prog 168 = some [.int .u8 0, .int .u8 0, .int .u8 0, .int .u8 0, .int .u8 0, .int .u8 0, .int .u8 0, .int .u8 0, .int .u8 0, .int .u8 0, .int .u8 0, .int .u8 0, .int .u8 0, .int .u8 0, .int .u8 0, .int .u8 0, .int .u8 0, .int .u8 0, .int .u8 0, .int .u8 0, .int .u8 0, .int .u8 0, .int .u8 0, .int .u8 0] := by kernel_rfl
@[go_sem] theorem zero185 : tZero Tryd.prog 185 = some [.int .u8 0, .int .u8 0, .int .u8 0, .int .u8 0, .int .u8 0, .int .u8 0, .int .u8 0, .int .u8 0, .int .u8 0, .int .u8 0, .int .u8 0, .int .u8 0, .int .u8 0, .int .u8 0, .int .u8 0, .int .u8 0, .int .u8 0, .int .u8 0, .int .u8 0, .int .u8 0, .int .u8 0, .int .u8 0, .int .u8 0, .int .u8 0, .int .u8 0, .int .u8 0, .int .u8 0, .int .u8 0, .int .u8 0, .int .u8 0, .int .u8 0, .int .u8 0, .int .u8 0, .int .u8 0, .int .u8 0, .int .u8 0, .int .u8 0, .int .u8 0, .int .u8 0, .int .u8 0, .int .u8 0, .int .u8 0, .int .u8 0, .int .u8 0, .int .u8 0, .int .u8 0, .int .u8 0, .int .u8 0, .int .u8 0, .int .u8 0, .int .u8 0, .int .u8 0, .int .u8 0, .int .u8 0, .int .u8 0, .int .u8 0, .int .u8 0, .int .u8 0, .int .u8 0, .int .u8 0, .int .u8 0, .int .u8 0, .int .u8 0, .int .u8 0, .int .u8 0] := by kernel_rfl
@[go_sem] theorem zero207 : tZero Tryd.prog 207 = some [.int .u8 0, .int .u8 0] := by kernel_rfl
@[go_sem] theorem agg2 : tAgg Tryd.prog 2 = some false := by kernel_rfl
@[go_sem] theorem sz2 : tSz Tryd.prog 2 = some 1 := by kernel_rfl
@[go_sem] theorem agg3 : tAgg Tryd.prog 3 = some false := by kernel_rfl
@[go_sem] theorem sz3 : tSz Tryd.prog 3 = some 1 := by kernel_rfl
@[go_sem] theorem agg4 : tAgg Tryd.prog 4 = some false := by kernel_rfl
@[go_sem] theorem sz4 : tSz Tryd.prog 4 = some 1 := by kernel_rfl
@[go_sem] theorem agg5 : tAgg Tryd.prog 5 = some false := by kernel_rfl
@[go_sem] theorem sz5 : tSz Tryd.prog 5 = some 1 := by kernel_rfl
@[go_sem] theorem agg9 : tAgg Tryd.prog 9 = some false := by kernel_rfl
@[go_sem] theorem sz9 : tSz Tryd.prog 9 = some 1 := by kernel_rfl
@[go_sem] theorem agg23 : tAgg Tryd.prog 23 = some true := by kernel_rfl
@[go_sem] theorem sz23 : tSz Tryd.prog 23 = some 6 := by kernel_rfl
@[go_sem] theorem agg24 : tAgg Tryd.prog 24 = some true := by kernel_rfl
@[go_sem] theorem sz24 : tSz Tryd.prog 24 = some 3 := by kernel_rfl
@[go_sem] theorem agg25 : tAgg Tryd.prog 25 = some true := by kernel_rfl
@[go_sem] theorem sz25 : tSz Tryd.prog 25 = some 3 := by kernel_rfl
@[go_sem] theorem agg26 : tAgg Tryd.prog 26 = some false := by kernel_rfl
@[go_sem] theorem sz26 : tSz Tryd.prog 26 = some 1 := by kernel_rfl
@[go_sem] theorem agg31 : tAgg Tryd.prog 31 = some false := by kernel_rfl
@[go_sem] theorem sz31 : tSz Tryd.prog 31 = some 1 := by kernel_rfl
@[go_sem] theorem agg33 : tAgg Tryd.prog 33 = some true := by kernel_rfl
@[go_sem] theorem sz33 : tSz Tryd.prog 33 = some 2 := by kernel_rfl
@[go_sem] theorem agg34 : tAgg Tryd.prog 34 = some true := by kernel_rfl
@[go_sem] theorem sz34 : tSz Tryd.prog 34 = some 12 := by kernel_rfl
@[go_sem] theorem agg40 : tAgg Tryd.prog 40 = some false := by kernel_rfl
@[go_sem] theorem sz40 : tSz Tryd.prog 40 = some 1 := by kernel_rfl
@[go_sem] theorem agg42 : tAgg Tryd.prog 42 = some true := by kernel_rfl
@[go_sem] theorem sz42 : tSz Tryd.prog 42 = some 2 := by kernel_rfl
@[go_sem] theorem agg57 : tAgg Tryd.prog 57 = some true := by kernel_rfl
@[go_sem] theorem sz57 : tSz Tryd.prog 57 = some 31 := by kernel_rfl
@[go_sem] theorem agg88 : tAgg Tryd.prog 88 = some false := by kernel_rfl
@[go_sem] theorem sz88 : tSz Tryd.prog 88 = some 1 := by kernel_rfl
@[go_sem] theorem agg92 : tAgg Tryd.prog 92 = some false := by kernel_rfl
@[go_sem] theorem sz92 : tSz Tryd.prog 92 = some 1 := by kernel_rfl
@[go_sem] theorem agg97 : tAgg Tryd.prog 97 = some false := by kernel_rfl
@[go_sem] theorem sz97 : tSz Tryd.prog 97 = some 1 := by kernel_rfl
@[go_sem] theorem agg98 : tAgg Tryd.prog 98 = some false := by kernel_rfl
@[go_sem] theorem sz98 : tSz Tryd.prog 98 = some 1 := by kernel_rfl
@[go_sem] theorem agg104 : tAgg Tryd.prog 104 = some false := by kernel_rfl
@[go_sem] theorem sz104 : tSz Tryd.prog 104 = some 1 := by kernel_rfl
@[go_sem] theorem agg106 : tAgg Tryd.prog 106 = some true := by kernel_rfl
@[go_sem] theorem sz106 : tSz Tryd.prog 106 = some 2 := by kernel_rfl
@[go_sem] theorem agg108 : tAgg Tryd.prog 108 = some false := by kernel_rfl
@[go_sem] theorem sz108 : tSz Tryd.prog 108 = some 1 := by kernel_rfl
@[go_sem] theorem agg111 : tAgg Tryd.prog 111 = some false := by kernel_rfl
@[go_sem] theorem sz111 : tSz Tryd.prog 111 = some 1 := by kernel_rfl
@[go_sem] theorem agg115 : tAgg Tryd.prog 115 = some true := by kernel_rfl
@[go_sem] theorem sz115 : tSz Tryd.prog 115 = some 0 := by kernel_rfl
@[go_sem] theorem agg137 : tAgg Tryd.prog 137 = some true := by kernel_rfl
@[go_sem] theorem sz137 : tSz Tryd.prog 137 = some 9 := by kernel_rfl
@[go_sem] theorem agg164 : tAgg Tryd.prog 164 = some true := by kernel_rfl
@[go_sem] theorem sz164 : tSz Tryd.prog 164 = some 9 := by kernel_rfl
@[go_sem] theorem agg183 : tAgg Tryd.prog 183 = some true := by kernel_rfl
@[go_sem] theorem sz183 : tSz Tryd.prog 183 = some 20 := by kernel_rfl
@[go_sem] theorem agg203 : tAgg Tryd.prog 203 = some true := by kernel_rfl
@[go_sem] theorem sz203 : tSz Tryd.prog 203 = some 32 := by kernel_rfl
@[go_sem] theorem agg204 : tAgg Tryd.prog 204 = some true := by kernel_rfl
@[go_sem] theorem sz204 : tSz Tryd.prog 204 = some 64 := by kernel_rfl
@[go_sem] theorem agg207 : tAgg Tryd.prog 207 = some true := by kernel_rfl
@[go_sem] theorem sz207 : tSz Tryd.prog 207 = some 2 := by kernel_rfl
@[go_sem] theorem agg208 : tAgg Tryd.prog 208 = some true := by kernel_rfl
@[go_sem] theorem sz208 : tSz Tryd.prog 208 = some 32 := by kernel_rfl
@[go_sem] theorem arr23 : tArr Tryd.prog 23 = some (6, 2) := by kernel_rfl
@[go_sem] theorem zero24 : tZero Tryd.prog 24 = some [.int .i64 0, .int .i64 0, .int .i64 0] := by kernel_rfl
@[go_sem] theorem arr24 : tArr Tryd.prog 24 = some (3, 2) := by kernel_rfl
@[go_sem] theorem arr25 : tArr Tryd.prog 25 = some (3, 2) := by kernel_rfl
@[go_sem] theorem arr33 : tArr Tryd.prog 33 = none := by kernel_rfl
@[go_sem] theorem pl33 : tPl Tryd.prog 33 = some [(0, 1), (1, 1)] := by kernel_rfl
@[go_sem] theorem arr42 : tArr Tryd.prog 42 = none := by kernel_rfl
@[go_sem] theorem pl42 : tPl Tryd.prog 42 = some [(0, 1), (1, 1)] := by kernel_rfl
@[go_sem] theorem arr57 : tArr Tryd.prog 57 = none := by kernel_rfl
@[go_sem] theorem pl57 : tPl Tryd.prog 57 = some [(0, 3), (3, 3), (6, 1), (7, 1), (8, 3), (11, 3), (14, 3), (17, 3), (20, 1), (21, 3), (24, 1), (25, 1), (26, 1), (27, 1), (28, 1), (29, 1), (30, 1)] := by kernel_rfl
@[go_sem] theorem arr106 : tArr Tryd.prog 106 = none := by kernel_rfl
@[go_sem] theorem pl106 : tPl Tryd.prog 106 = some [(0, 1), (1, 1)] := by kernel_rfl
@[go_sem] theorem arr115 : tArr Tryd.prog 115 = none := by kernel_rfl
@[go_sem] theorem pl115 : tPl Tryd.prog 115 = some [] := by kernel_rfl
@[go_sem] theorem zero137 : tZero Tryd.prog 137 = some [.int .i64 0, .int .i64 0, .int .i64 0, .int .i64 0, .int .i64 0, .int .i64 0, .int .i64 0, .int .i64 0, .int .i64 0] := by kernel_rfl
@[go_sem] theorem arr137 : tArr Tryd.prog 137 = some (3, 24) := by kernel_rfl
@[go_sem] theorem zero163 : tZero Tryd.prog 163 = some [.int .i64 0, .int .i64 0, .int .i64 0] := by kernel_rfl
@[go_sem] theorem arr163 : tArr Tryd.prog 163 = some (3, 3) := by kernel_rfl
@[go_sem] theorem zero164 : tZero Tryd.prog 164 = some [.int .i64 0, .int .i64 0, .int .i64 0, .int .i64 0, .int .i64 0, .int .i64 0, .int .i64 0, .int .i64 0, .int .i64 0] := by kernel_rfl
@[go_sem] theorem arr164 : tArr Tryd.prog 164 = some (3, 163) := by kernel_rfl
@[go_sem] theorem agg163 : tAgg Tryd.prog 163 = some true := by kernel_rfl
@[go_sem] theorem sz163 : tSz Tryd.prog 163 = some 3 := by kernel_rfl
@[go_sem] theorem zero183 : tZero Tryd.prog 183 = some [.int .u64 0, .int .u64 0, .int .u64 0, .int .u64 0, .int .u64 0, .int .u64 0, .int .u64 0, .int .u64 0, .int .u64 0, .int .u64 0, .int .u64 0, .int .u64 0, .int .u64 0, .int .u64 0, .int .u64 0, .int .u64 0, .int .u64 0, .int .u64 0, .int .u64 0, .int .u64 0] := by kernel_rfl
@[go_sem] theorem arr183 : tArr Tryd.prog 183 = some (20, 31) := by kernel_rfl
@[go_sem] theorem zero195 : tZero Tryd.prog 195 = some [.raw (.string ByteArray.empty), .raw (.string ByteArray.empty), .raw .nilIface] := by kernel_rfl
@[go_sem] theorem arr195 : tArr Tryd.prog 195 = none := by kernel_rfl
@[go_sem] theorem pl195 : tPl Tryd.prog 195 = some [(0, 1), (1, 1), (2, 1)] := by kernel_rfl
@[go_sem] theorem zero200 : tZero Tryd.prog 200 = some [.raw (.string ByteArray.empty)] := by kernel_rfl
@[go_sem] theorem arr200 : tArr Tryd.prog 200 = none := by kernel_rfl
@[go_sem] theorem pl200 : tPl Tryd.prog 200 = some [(0, 1)] := by kernel_rfl
@[go_sem] theorem zero203 : tZero Tryd.prog 203 = some [.int .u8 0, .int .u8 0, .int .u8 0, .int .u8 0, .int .u8 0, .int .u8 0, .int .u8 0, .int .u8 0, .int .u8 0, .int .u8 0, .int .u8 0, .int .u8 0, .int .u8 0, .int .u8 0, .int .u8 0, .int .u8 0, .int .u8 0, .int .u8 0, .int .u8 0, .int .u8 0, .int .u8 0, .int .u8 0, .int .u8 0, .int .u8 0, .int .u8 0, .int .u8 0, .int .u8 0, .int .u8 0, .int .u8 0, .int .u8 0, .int .u8 0, .int .u8 0] := by kernel_rfl
@[go_sem] theorem arr203 : tArr Tryd.prog 203 = some (32, 5) := by kernel_rfl
@[go_sem] theorem zero204 : tZero Tryd.prog 204 = some [.int .u8 0, .int .u8 0, .int .u8 0, .int .u8 0, .int .u8 0, .int .u8 0, .int .u8 0, .int .u8 0, .int .u8 0, .int .u8 0, .int .u8 0, .int .u8 0, .int .u8 0, .int .u8 0, .int .u8 0, .int .u8 0, .int .u8 0, .int .u8 0, .int .u8 0, .int .u8 0, .int .u8 0, .int .u8 0, .int .u8 0, .int .u8 0, .int .u8 0, .int .u8 0, .int .u8 0, .int .u8 0, .int .u8 0, .int .u8 0, .int .u8 0, .int .u8 0, .int .u8 0, .int .u8 0, .int .u8 0, .int .u8 0, .int .u8 0, .int .u8 0, .int .u8 0, .int .u8 0, .int .u8 0, .int .u8 0, .int .u8 0, .int .u8 0, .int .u8 0, .int .u8 0, .int .u8 0, .int .u8 0, .int .u8 0, .int .u8 0, .int .u8 0, .int .u8 0, .int .u8 0, .int .u8 0, .int .u8 0, .int .u8 0, .int .u8 0, .int .u8 0, .int .u8 0, .int .u8 0, .int .u8 0, .int .u8 0, .int .u8 0, .int .u8 0] := by kernel_rfl
@[go_sem] theorem arr204 : tArr Tryd.prog 204 = some (64, 5) := by kernel_rfl
@[go_sem] theorem arr207 : tArr Tryd.prog 207 = none := by kernel_rfl
@[go_sem] theorem pl207 : tPl Tryd.prog 207 = some [(0, 1), (1, 1)] := by kernel_rfl
@[go_sem] theorem zero208 : tZero Tryd.prog 208 = some [.int .u8 0, .int .u8 0, .int .u8 0, .int .u8 0, .int .u8 0, .int .u8 0, .int .u8 0, .int .u8 0, .int .u8 0, .int .u8 0, .int .u8 0, .int .u8 0, .int .u8 0, .int .u8 0, .int .u8 0, .int .u8 0, .int .u8 0, .int .u8 0, .int .u8 0, .int .u8 0, .int .u8 0, .int .u8 0, .int .u8 0, .int .u8 0, .int .u8 0, .int .u8 0, .int .u8 0, .int .u8 0, .int .u8 0, .int .u8 0, .int .u8 0, .int .u8 0] := by kernel_rfl
@[go_sem] theorem arr208 : tArr Tryd.prog 208 = some (16, 207) := by kernel_rfl
@[go_sem] theorem slc40 : tSlc Tryd.prog 40 = some 31 := by kernel_rfl
@[go_sem] theorem zero31 : tZero Tryd.prog 31 = some [.int .u64 0] := by kernel_rfl
@[go_sem] theorem slc85 : tSlc Tryd.prog 85 = some 88 := by kernel_rfl
@[go_sem] theorem zero88 : tZero Tryd.prog 88 = some [.raw (.slice none 0 0)] := by kernel_rfl
@[go_sem] theorem slc88 : tSlc Tryd.prog 88 = some 2 := by kernel_rfl
@[go_sem] theorem slc98 : tSlc Tryd.prog 98 = some 5 := by kernel_rfl
@[go_sem] theorem zero5 : tZero Tryd.prog 5 = some [.int .u8 0] := by kernel_rfl
@[go_sem] theorem slc101 : tSlc Tryd.prog 101 = some 106 := by kernel_rfl
@[go_sem] theorem slc104 : tSlc Tryd.prog 104 = some 111 := by kernel_rfl
@[go_sem] theorem zero111 : tZero Tryd.prog 111 = some [.raw (.pointer none)] := by kernel_rfl
@[go_sem] theorem slc117 : tSlc Tryd.prog 117 = some 9 := by kernel_rfl
@[go_sem] theorem zero9 : tZero Tryd.prog 9 = some [.raw (.string ByteArray.empty)] := by kernel_rfl
@[go_sem] theorem slc144 : tSlc Tryd.prog 144 = some 92 := by kernel_rfl
@[go_sem] theorem zero92 : tZero Tryd.prog 92 = some [.raw .nilFunc] := by kernel_rfl
@[go_sem] theorem int2 : tInt Tryd.prog 2 = some .i64 := by kernel_rfl
@[go_sem] theorem int3 : tInt Tryd.prog 3 = some .i64 := by kernel_rfl
@[go_sem] theorem int5 : tInt Tryd.prog 5 = some .u8 := by kernel_rfl
@[go_sem] theorem int9 : tInt Tryd.prog 9 = none := by kernel_rfl
@[go_sem] theorem int21 : tInt Tryd.prog 21 = some .i32 := by kernel_rfl
@[go_sem] theorem int31 : tInt Tryd.prog 31 = some .u64 := by kernel_rfl
@[go_sem] theorem int51 : tInt Tryd.prog 51 = some .u64 := by kernel_rfl
@[go_sem] theorem int97 : tInt Tryd.prog 97 = none := by kernel_rfl
@[go_sem] theorem int98 : tInt Tryd.prog 98 = none := by kernel_rfl
@[go_sem] theorem int165 : tInt Tryd.prog 165 = none := by kernel_rfl
@[go_sem] theorem int184 : tInt Tryd.prog 184 = some .u32 := by kernel_rfl
@[go_sem] theorem arr2 : tArr Tryd.prog 2 = none := by kernel_rfl
@[go_sem] theorem slc2 : tSlc Tryd.prog 2 = none := by kernel_rfl
@[go_sem] theorem str2 : tStr Tryd.prog 2 = false := by kernel_rfl
@[go_sem] theorem arr3 : tArr Tryd.prog 3 = none := by kernel_rfl
@[go_sem] theorem slc3 : tSlc Tryd.prog 3 = none := by kernel_rfl
@[go_sem] theorem str3 : tStr Tryd.prog 3 = false := by kernel_rfl
@[go_sem] theorem arr9 : tArr Tryd.prog 9 = none := by kernel_rfl
@[go_sem] theorem slc9 : tSlc Tryd.prog 9 = none := by kernel_rfl
@[go_sem] theorem str9 : tStr Tryd.prog 9 = true := by kernel_rfl
@[go_sem] theorem arr34 : tArr Tryd.prog 34 = some (6, 33) := by kernel_rfl
@[go_sem] theorem arr40 : tArr Tryd.prog 40 = none := by kernel_rfl
@[go_sem] theorem str40 : tStr Tryd.prog 40 = false := by kernel_rfl
@[go_sem] theorem arr85 : tArr Tryd.prog 85 = none := by kernel_rfl
@[go_sem] theorem str85 : tStr Tryd.prog 85 = false := by kernel_rfl
@[go_sem] theorem arr88 : tArr Tryd.prog 88 = none := by kernel_rfl
@[go_sem] theorem str88 : tStr Tryd.prog 88 = false := by kernel_rfl
@[go_sem] theorem arr98 : tArr Tryd.prog 98 = none := by kernel_rfl
@[go_sem] theorem str98 : tStr Tryd.prog 98 = false := by kernel_rfl
@[go_sem] theorem arr101 : tArr Tryd.prog 101 = none := by kernel_rfl
@[go_sem] theorem str101 : tStr Tryd.prog 101 = false := by kernel_rfl
@[go_sem] theorem arr104 : tArr Tryd.prog 104 = none := by kernel_rfl
@[go_sem] theorem str104 : tStr Tryd.prog 104 = false := by kernel_rfl
@[go_sem] theorem arr117 : tArr Tryd.prog 117 = none := by kernel_rfl
@[go_sem] theorem str117 : tStr Tryd.prog 117 = false := by kernel_rfl
@[go_sem] theorem arr144 : tArr Tryd.prog 144 = none := by kernel_rfl
@[go_sem] theorem str144 : tStr Tryd.prog 144 = false := by kernel_rfl
@[go_sem] theorem arr154 : tArr Tryd.prog 154 = none := by kernel_rfl
@[go_sem] theorem slc154 : tSlc Tryd.prog 154 = none := by kernel_rfl
@[go_sem] theorem str154 : tStr Tryd.prog 154 = false := by kernel_rfl
@[go_sem] theorem arr168 : tArr Tryd.prog 168 = some (24, 5) := by kernel_rfl
@[go_sem] theorem arr185 : tArr Tryd.prog 185 = some (65, 5) := by kernel_rfl
@[go_sem] theorem arr205 : tArr Tryd.prog 205 = some (256, 5) := by kernel_rfl
@[go_sem] theorem bool2 : tBool Tryd.prog 2 = false := by kernel_rfl
@[go_sem] theorem bool3 : tBool Tryd.prog 3 = false := by kernel_rfl
@[go_sem] theorem bool4 : tBool Tryd.prog 4 = true := by kernel_rfl
@[go_sem] theorem bool5 : tBool Tryd.prog 5 = false := by kernel_rfl
@[go_sem] theorem bool9 : tBool Tryd.prog 9 = false := by kernel_rfl
@[go_sem] theorem bool20 : tBool Tryd.prog 20 = false := by kernel_rfl
@[go_sem] theorem bool21 : tBool Tryd.prog 21 = false := by kernel_rfl
@[go_sem] theorem bool23 : tBool Tryd.prog 23 = false := by kernel_rfl
@[go_sem] theorem eq23 : tEq Tryd.prog 23 = some [(0, EK.int .i64), (1, EK.int .i64), (2, EK.int .i64), (3, EK.int .i64), (4, EK.int .i64), (5, EK.int .i64)] := by kernel_rfl
@[go_sem] theorem bool25 : tBool Tryd.prog 25 = false := by kernel_rfl
@[go_sem] theorem eq25 : tEq Tryd.prog 25 = some [(0, EK.int .i64), (1, EK.int .i64), (2, EK.int .i64)] := by kernel_rfl
@[go_sem] theorem bool26 : tBool Tryd.prog 26 = false := by kernel_rfl
@[go_sem] theorem bool31 : tBool Tryd.prog 31 = false := by kernel_rfl
@[go_sem] theorem bool33 : tBool Tryd.prog 33 = false := by kernel_rfl
@[go_sem] theorem eq33 : tEq Tryd.prog 33 = some [(0, EK.int .i64), (1, EK.int .u64)] := by kernel_rfl
@[go_sem] theorem bool57 : tBool Tryd.prog 57 = false := by kernel_rfl
@[go_sem] theorem eq57 : tEq Tryd.prog 57 = some [(0, EK.int .i64), (1, EK.int .i64), (2, EK.int .i64), (3, EK.int .i64), (4, EK.int .i64), (5, EK.int .i64), (6, EK.int .i64), (7, EK.int .i64), (8, EK.int .i64), (9, EK.int .i64), (10, EK.int .i64), (11, EK.int .i64), (12, EK.int .i64), (13, EK.int .i64), (14, EK.int .i64), (15, EK.int .i64), (16, EK.int .i64), (17, EK.int .i64), (18, EK.int .i64), (19, EK.int .i64), (20, EK.int .i64), (21, EK.int .i64), (22, EK.int .i64), (23, EK.int .i64), (24, EK.int .i64), (25, EK.int .i64), (26, EK.int .i64), (27, EK.int .i64), (28, EK.int .i64), (29, EK.int .i64), (30, EK.int .i64)] := by kernel_rfl
@[go_sem] theorem bool97 : tBool Tryd.prog 97 = false := by kernel_rfl
@[go_sem] theorem ptr97 : tPtr Tryd.prog 97 = true := by kernel_rfl
@[go_sem] theorem bool108 : tBool Tryd.prog 108 = false := by kernel_rfl
@[go_sem] theorem bool184 : tBool Tryd.prog 184 = false := by kernel_rfl
@[go_sem] theorem fld33x0 : tFld Tryd.prog 33 0 = some (0, 2) := by kernel_rfl
@[go_sem] theorem fld33x1 : tFld Tryd.prog 33 1 = some (1, 31) := by kernel_rfl
@[go_sem] theorem fld42x0 : tFld Tryd.prog 42 0 = some (0, 4) := by kernel_rfl
@[go_sem] theorem fld42x1 : tFld Tryd.prog 42 1 = some (1, 40) := by kernel_rfl
@[go_sem] theorem fld57x0 : tFld Tryd.prog 57 0 = some (0, 25) := by kernel_rfl
@[go_sem] theorem fld57x1 : tFld Tryd.prog 57 1 = some (3, 25) := by kernel_rfl
@[go_sem] theorem fld57x2 : tFld Tryd.prog 57 2 = some (6, 2) := by kernel_rfl
@[go_sem] theorem fld57x3 : tFld Tryd.prog 57 3 = some (7, 2) := by kernel_rfl
@[go_sem] theorem fld57x4 : tFld Tryd.prog 57 4 = some (8, 25) := by kernel_rfl
@[go_sem] theorem fld57x5 : tFld Tryd.prog 57 5 = some (11, 25) := by kernel_rfl
@[go_sem] theorem fld57x6 : tFld Tryd.prog 57 6 = some (14, 25) := by kernel_rfl
@[go_sem] theorem fld57x7 : tFld Tryd.prog 57 7 = some (17, 25) := by kernel_rfl
@[go_sem] theorem fld57x8 : tFld Tryd.prog 57 8 = some (20, 2) := by kernel_rfl
@[go_sem] theorem fld57x9 : tFld Tryd.prog 57 9 = some (21, 25) := by kernel_rfl
@[go_sem] theorem fld57x10 : tFld Tryd.prog 57 10 = some (24, 2) := by kernel_rfl
@[go_sem] theorem fld57x11 : tFld Tryd.prog 57 11 = some (25, 2) := by kernel_rfl
@[go_sem] theorem fld57x12 : tFld Tryd.prog 57 12 = some (26, 2) := by kernel_rfl
@[go_sem] theorem fld57x13 : tFld Tryd.prog 57 13 = some (27, 2) := by kernel_rfl
@[go_sem] theorem fld57x14 : tFld Tryd.prog 57 14 = some (28, 2) := by kernel_rfl
@[go_sem] theorem fld57x15 : tFld Tryd.prog 57 15 = some (29, 2) := by kernel_rfl
@[go_sem] theorem fld57x16 : tFld Tryd.prog 57 16 = some (30, 2) := by kernel_rfl
@[go_sem] theorem fld100x0 : tFld Tryd.prog 100 0 = some (0, 97) := by kernel_rfl
@[go_sem] theorem fld100x1 : tFld Tryd.prog 100 1 = some (1, 98) := by kernel_rfl
@[go_sem] theorem fld106x0 : tFld Tryd.prog 106 0 = some (0, 9) := by kernel_rfl
@[go_sem] theorem fld106x1 : tFld Tryd.prog 106 1 = some (1, 104) := by kernel_rfl
@[go_sem] theorem fld207x0 : tFld Tryd.prog 207 0 = some (0, 5) := by kernel_rfl
@[go_sem] theorem fld207x1 : tFld Tryd.prog 207 1 = some (1, 5) := by kernel_rfl

end Go.Proofs.YtmpdlldjekagoaaDoor
