import Derived.Test.YtniigndkhlhlcaaProg
import Derived.Test.YtniigndkhlhlcaaP06
import Derived.KernelRfl
import Derived.Laws.Externs
set_option linter.all false
/- Tables of the program, printed by a tool of mine (GenTab.lean): what the evaluator asks of types and functions; each is held against the program by Lean's kernel. -/
set_option maxRecDepth 100000
namespace Go.Ev.Tab
open Go Go.Proofs Go.Ev.X

noncomputable def ti0 : TI := { und := some (.tuple #[]), info := some (1), zs := true, size := 1, bytes := 0, agg := false, nil := .nilsl, elem := none, zero := none, eq := none, key := none, arr := none }
noncomputable def ti1 : TI := { und := some (.func #[] #[] false), info := some (1), zs := true, size := 1, bytes := 8, agg := false, nil := .nilsl, elem := none, zero := some ([.nilfn]), eq := none, key := none, arr := none }
noncomputable def ti2 : TI := { und := some (.int .i64), info := some (1), zs := true, size := 1, bytes := 8, agg := false, nil := .nilsl, elem := none, zero := some ([.int .i64 0]), eq := some ((.int .i64)), key := none, arr := none }
noncomputable def ti3 : TI := { und := some (.int .i64), info := some (1), zs := true, size := 1, bytes := 8, agg := false, nil := .nilsl, elem := none, zero := some ([.int .i64 0]), eq := some ((.int .i64)), key := none, arr := none }
noncomputable def ti4 : TI := { und := some (.bool), info := some (1), zs := true, size := 1, bytes := 1, agg := false, nil := .nilsl, elem := none, zero := some ([.bool false]), eq := some (.bool), key := none, arr := none }
noncomputable def ti5 : TI := { und := some (.int .u8), info := some (1), zs := true, size := 1, bytes := 1, agg := false, nil := .nilsl, elem := none, zero := some ([.int .u8 0]), eq := some ((.int .u8)), key := none, arr := none }
noncomputable def ti6 : TI := { und := some (.int .u8), info := some (1), zs := true, size := 1, bytes := 1, agg := false, nil := .nilsl, elem := none, zero := some ([.int .u8 0]), eq := some ((.int .u8)), key := none, arr := none }
noncomputable def ti7 : TI := { und := some (.struct #[{ name := "x", type := 2, offset := 0, byteOffset := 0, embedded := false, tag := "", pkgPath := "runtime" }, { name := "y", type := 3, offset := 1, byteOffset := 8, embedded := false, tag := "", pkgPath := "runtime" }, { name := "signed", type := 4, offset := 2, byteOffset := 16, embedded := false, tag := "", pkgPath := "runtime" }, { name := "code", type := 6, offset := 3, byteOffset := 17, embedded := false, tag := "", pkgPath := "runtime" }]), info := some (4), zs := true, size := 4, bytes := 24, agg := true, nil := .nilsl, elem := none, zero := some ([.int .i64 0, .int .i64 0, .bool false, .int .u8 0]), eq := some ((.pair (.int .i64) (.pair (.int .i64) (.pair .bool (.int .u8))))), key := none, arr := none }
noncomputable def ti8 : TI := { und := some (.struct #[{ name := "x", type := 2, offset := 0, byteOffset := 0, embedded := false, tag := "", pkgPath := "runtime" }, { name := "y", type := 3, offset := 1, byteOffset := 8, embedded := false, tag := "", pkgPath := "runtime" }, { name := "signed", type := 4, offset := 2, byteOffset := 16, embedded := false, tag := "", pkgPath := "runtime" }, { name := "code", type := 6, offset := 3, byteOffset := 17, embedded := false, tag := "", pkgPath := "runtime" }]), info := some (4), zs := true, size := 4, bytes := 24, agg := true, nil := .nilsl, elem := none, zero := some ([.int .i64 0, .int .i64 0, .bool false, .int .u8 0]), eq := some ((.pair (.int .i64) (.pair (.int .i64) (.pair .bool (.int .u8))))), key := none, arr := none }
noncomputable def ti9 : TI := { und := some (.string), info := some (1), zs := true, size := 1, bytes := 16, agg := false, nil := .nilsl, elem := none, zero := some ([.str []]), eq := some (.str), key := none, arr := none }
noncomputable def ti10 : TI := { und := some (.string), info := some (1), zs := true, size := 1, bytes := 16, agg := false, nil := .nilsl, elem := none, zero := some ([.str []]), eq := some (.str), key := none, arr := none }
noncomputable def ti11 : TI := { und := some (.string), info := some (1), zs := true, size := 1, bytes := 16, agg := false, nil := .nilsl, elem := none, zero := some ([.str []]), eq := some (.str), key := none, arr := none }
noncomputable def ti12 : TI := { und := some (.int .u64), info := some (1), zs := true, size := 1, bytes := 8, agg := false, nil := .nilsl, elem := none, zero := some ([.int .u64 0]), eq := some ((.int .u64)), key := none, arr := none }
noncomputable def ti13 : TI := { und := some (.struct #[{ name := "msg", type := 9, offset := 0, byteOffset := 0, embedded := false, tag := "", pkgPath := "runtime" }, { name := "addr", type := 12, offset := 1, byteOffset := 16, embedded := false, tag := "", pkgPath := "runtime" }]), info := some (2), zs := true, size := 2, bytes := 24, agg := true, nil := .nilsl, elem := none, zero := some ([.str [], .int .u64 0]), eq := none, key := none, arr := none }
noncomputable def ti14 : TI := { und := some (.struct #[{ name := "msg", type := 9, offset := 0, byteOffset := 0, embedded := false, tag := "", pkgPath := "runtime" }, { name := "addr", type := 12, offset := 1, byteOffset := 16, embedded := false, tag := "", pkgPath := "runtime" }]), info := some (2), zs := true, size := 2, bytes := 24, agg := true, nil := .nilsl, elem := none, zero := some ([.str [], .int .u64 0]), eq := none, key := none, arr := none }
noncomputable def ti15 : TI := { und := some (.pointer 109), info := some (1), zs := true, size := 1, bytes := 8, agg := false, nil := .nilsl, elem := none, zero := some ([.nilptr]), eq := none, key := none, arr := none }
noncomputable def ti16 : TI := { und := some (.pointer 112), info := some (1), zs := true, size := 1, bytes := 8, agg := false, nil := .nilsl, elem := none, zero := some ([.nilptr]), eq := none, key := none, arr := none }
noncomputable def ti17 : TI := { und := some (.pointer 120), info := some (1), zs := true, size := 1, bytes := 8, agg := false, nil := .nilsl, elem := none, zero := some ([.nilptr]), eq := none, key := none, arr := none }
noncomputable def ti18 : TI := { und := some (.struct #[{ name := "typ", type := 17, offset := 0, byteOffset := 0, embedded := false, tag := "", pkgPath := "internal/runtime/maps" }]), info := some (1), zs := true, size := 1, bytes := 8, agg := true, nil := .nilsl, elem := none, zero := some ([.nilptr]), eq := none, key := none, arr := none }
noncomputable def ti19 : TI := { und := some (.struct #[{ name := "typ", type := 17, offset := 0, byteOffset := 0, embedded := false, tag := "", pkgPath := "internal/runtime/maps" }]), info := some (1), zs := true, size := 1, bytes := 8, agg := true, nil := .nilsl, elem := none, zero := some ([.nilptr]), eq := none, key := none, arr := none }
noncomputable def ti20 : TI := { und := (Try.prog.underlying 20), info := some (1), zs := true, size := 1, bytes := 16, agg := false, nil := .nilsl, elem := none, zero := none, eq := none, key := none, arr := none }
noncomputable def ti21 : TI := { und := some (.int .i32), info := some (1), zs := true, size := 1, bytes := 4, agg := false, nil := .nilsl, elem := none, zero := some ([.int .i32 0]), eq := some ((.int .i32)), key := none, arr := none }
noncomputable def ti22 : TI := { und := some (.func #[] #[4] false), info := some (1), zs := true, size := 1, bytes := 8, agg := false, nil := .nilsl, elem := none, zero := some ([.nilfn]), eq := none, key := none, arr := none }
noncomputable def ti23 : TI := { und := some (.slice 29), info := some (1), zs := true, size := 1, bytes := 24, agg := false, nil := .sl (.pair (.int .i64) (.pair (.pair (.int .i64) (.int .i64)) (.int .i64))) [] (some true) (some 0), elem := some ((.pair (.int .i64) (.pair (.pair (.int .i64) (.int .i64)) (.int .i64)))), zero := some ([.sl (.pair (.int .i64) (.pair (.pair (.int .i64) (.int .i64)) (.int .i64))) [] (some true) (some 0)]), eq := none, key := none, arr := none }
noncomputable def ti24 : TI := { und := some (.struct #[{ name := "Held", type := 23, offset := 0, byteOffset := 0, embedded := false, tag := "", pkgPath := "" }, { name := "Waiting", type := 23, offset := 1, byteOffset := 24, embedded := false, tag := "", pkgPath := "" }]), info := some (2), zs := true, size := 2, bytes := 48, agg := true, nil := .nilsl, elem := none, zero := some ([.sl (.pair (.int .i64) (.pair (.pair (.int .i64) (.int .i64)) (.int .i64))) [] (some true) (some 0), .sl (.pair (.int .i64) (.pair (.pair (.int .i64) (.int .i64)) (.int .i64))) [] (some true) (some 0)]), eq := none, key := none, arr := none }
noncomputable def ti25 : TI := { und := some (.struct #[{ name := "Held", type := 23, offset := 0, byteOffset := 0, embedded := false, tag := "", pkgPath := "" }, { name := "Waiting", type := 23, offset := 1, byteOffset := 24, embedded := false, tag := "", pkgPath := "" }]), info := some (2), zs := true, size := 2, bytes := 48, agg := true, nil := .nilsl, elem := none, zero := some ([.sl (.pair (.int .i64) (.pair (.pair (.int .i64) (.int .i64)) (.int .i64))) [] (some true) (some 0), .sl (.pair (.int .i64) (.pair (.pair (.int .i64) (.int .i64)) (.int .i64))) [] (some true) (some 0)]), eq := none, key := none, arr := none }
noncomputable def ti26 : TI := { und := some (.struct #[{ name := "Page", type := 3, offset := 0, byteOffset := 0, embedded := false, tag := "", pkgPath := "" }, { name := "Slot", type := 3, offset := 1, byteOffset := 8, embedded := false, tag := "", pkgPath := "" }]), info := some (2), zs := true, size := 2, bytes := 16, agg := true, nil := .nilsl, elem := none, zero := some ([.int .i64 0, .int .i64 0]), eq := some ((.pair (.int .i64) (.int .i64))), key := none, arr := none }
noncomputable def ti27 : TI := { und := some (.struct #[{ name := "Page", type := 3, offset := 0, byteOffset := 0, embedded := false, tag := "", pkgPath := "" }, { name := "Slot", type := 3, offset := 1, byteOffset := 8, embedded := false, tag := "", pkgPath := "" }]), info := some (2), zs := true, size := 2, bytes := 16, agg := true, nil := .nilsl, elem := none, zero := some ([.int .i64 0, .int .i64 0]), eq := some ((.pair (.int .i64) (.int .i64))), key := none, arr := none }
noncomputable def ti28 : TI := { und := some (.struct #[{ name := "Tx", type := 3, offset := 0, byteOffset := 0, embedded := false, tag := "", pkgPath := "" }, { name := "Lock", type := 27, offset := 1, byteOffset := 8, embedded := false, tag := "", pkgPath := "" }, { name := "Mode", type := 3, offset := 3, byteOffset := 24, embedded := false, tag := "", pkgPath := "" }]), info := some (4), zs := true, size := 4, bytes := 32, agg := true, nil := .nilsl, elem := none, zero := some ([.int .i64 0, .int .i64 0, .int .i64 0, .int .i64 0]), eq := some ((.pair (.int .i64) (.pair (.pair (.int .i64) (.int .i64)) (.int .i64)))), key := none, arr := none }
noncomputable def ti29 : TI := { und := some (.struct #[{ name := "Tx", type := 3, offset := 0, byteOffset := 0, embedded := false, tag := "", pkgPath := "" }, { name := "Lock", type := 27, offset := 1, byteOffset := 8, embedded := false, tag := "", pkgPath := "" }, { name := "Mode", type := 3, offset := 3, byteOffset := 24, embedded := false, tag := "", pkgPath := "" }]), info := some (4), zs := true, size := 4, bytes := 32, agg := true, nil := .nilsl, elem := none, zero := some ([.int .i64 0, .int .i64 0, .int .i64 0, .int .i64 0]), eq := some ((.pair (.int .i64) (.pair (.pair (.int .i64) (.int .i64)) (.int .i64)))), key := none, arr := none }
noncomputable def ti30 : TI := { und := some (.slice 3), info := some (1), zs := true, size := 1, bytes := 24, agg := false, nil := .sl (.int .i64) [] (some true) (some 0), elem := some ((.int .i64)), zero := some ([.sl (.int .i64) [] (some true) (some 0)]), eq := none, key := none, arr := none }
noncomputable def ti31 : TI := { und := some (.func #[25, 3] #[30] false), info := some (1), zs := true, size := 1, bytes := 8, agg := false, nil := .nilsl, elem := none, zero := some ([.nilfn]), eq := none, key := none, arr := none }
noncomputable def ti32 : TI := { und := some (.func #[5, 4, 5] #[4] false), info := some (1), zs := true, size := 1, bytes := 8, agg := false, nil := .nilsl, elem := none, zero := some ([.nilfn]), eq := none, key := none, arr := none }
noncomputable def ti33 : TI := { und := some (.slice 5), info := some (1), zs := true, size := 1, bytes := 24, agg := false, nil := .sl (.int .u8) [] (some true) (some 0), elem := some ((.int .u8)), zero := some ([.sl (.int .u8) [] (some true) (some 0)]), eq := none, key := none, arr := none }
noncomputable def ti34 : TI := { und := some (.pointer 54), info := some (1), zs := true, size := 1, bytes := 8, agg := false, nil := .nilsl, elem := none, zero := some ([.nilptr]), eq := none, key := none, arr := none }
noncomputable def ti35 : TI := { und := some (.func #[33, 3] #[34] false), info := some (1), zs := true, size := 1, bytes := 8, agg := false, nil := .nilsl, elem := none, zero := some ([.nilfn]), eq := none, key := none, arr := none }
noncomputable def ti36 : TI := { und := some (.func #[] #[3] false), info := some (1), zs := true, size := 1, bytes := 8, agg := false, nil := .nilsl, elem := none, zero := some ([.nilfn]), eq := none, key := none, arr := none }
noncomputable def ti37 : TI := { und := some (.func #[] #[29] false), info := some (1), zs := true, size := 1, bytes := 8, agg := false, nil := .nilsl, elem := none, zero := some ([.nilfn]), eq := none, key := none, arr := none }
noncomputable def ti38 : TI := { und := some (.func #[3] #[3] false), info := some (1), zs := true, size := 1, bytes := 8, agg := false, nil := .nilsl, elem := none, zero := some ([.nilfn]), eq := none, key := none, arr := none }
noncomputable def ti39 : TI := { und := some (.func #[25, 3] #[25] false), info := some (1), zs := true, size := 1, bytes := 8, agg := false, nil := .nilsl, elem := none, zero := some ([.nilfn]), eq := none, key := none, arr := none }
noncomputable def ti40 : TI := { und := some (.func #[25, 3, 27] #[25] false), info := some (1), zs := true, size := 1, bytes := 8, agg := false, nil := .nilsl, elem := none, zero := some ([.nilfn]), eq := none, key := none, arr := none }
noncomputable def ti41 : TI := { und := some (.int .i64), info := some (1), zs := true, size := 1, bytes := 8, agg := false, nil := .nilsl, elem := none, zero := some ([.int .i64 0]), eq := some ((.int .i64)), key := none, arr := none }
noncomputable def ti42 : TI := { und := some (.tuple #[25, 4, 41]), info := some (1), zs := true, size := 1, bytes := 0, agg := false, nil := .nilsl, elem := none, zero := none, eq := none, key := none, arr := none }
noncomputable def ti43 : TI := { und := some (.func #[25, 29] #[25, 4, 41] false), info := some (1), zs := true, size := 1, bytes := 8, agg := false, nil := .nilsl, elem := none, zero := some ([.nilfn]), eq := none, key := none, arr := none }
noncomputable def ti44 : TI := { und := some (.tuple #[30, 41]), info := some (1), zs := true, size := 1, bytes := 0, agg := false, nil := .nilsl, elem := none, zero := none, eq := none, key := none, arr := none }
noncomputable def ti45 : TI := { und := some (.func #[25, 29] #[30, 41] false), info := some (1), zs := true, size := 1, bytes := 8, agg := false, nil := .nilsl, elem := none, zero := some ([.nilfn]), eq := none, key := none, arr := none }
noncomputable def ti46 : TI := { und := some (.func #[30, 30] #[4] false), info := some (1), zs := true, size := 1, bytes := 8, agg := false, nil := .nilsl, elem := none, zero := some ([.nilfn]), eq := none, key := none, arr := none }
noncomputable def ti47 : TI := { und := some (.func #[25] #[4] false), info := some (1), zs := true, size := 1, bytes := 8, agg := false, nil := .nilsl, elem := none, zero := some ([.nilfn]), eq := none, key := none, arr := none }
noncomputable def ti48 : TI := { und := some (.func #[33] #[4] false), info := some (1), zs := true, size := 1, bytes := 8, agg := false, nil := .nilsl, elem := none, zero := some ([.nilfn]), eq := none, key := none, arr := none }
noncomputable def ti49 : TI := { und := some (.map 3 4), info := some (1), zs := true, size := 1, bytes := 8, agg := false, nil := .nilsl, elem := none, zero := some ([.nilmap]), eq := none, key := some (((.int .i64), .bool)), arr := none }
noncomputable def ti50 : TI := { und := some (.slice 30), info := some (1), zs := true, size := 1, bytes := 24, agg := false, nil := .sl (.sl (.int .i64)) [] (some true) (some 0), elem := some ((.sl (.int .i64))), zero := some ([.sl (.sl (.int .i64)) [] (some true) (some 0)]), eq := none, key := none, arr := none }
noncomputable def ti51 : TI := { und := some (.func #[30, 3] #[4] false), info := some (1), zs := true, size := 1, bytes := 8, agg := false, nil := .nilsl, elem := none, zero := some ([.nilfn]), eq := none, key := none, arr := none }
noncomputable def ti52 : TI := { und := some (.func #[30] #[30] false), info := some (1), zs := true, size := 1, bytes := 8, agg := false, nil := .nilsl, elem := none, zero := some ([.nilfn]), eq := none, key := none, arr := none }
noncomputable def ti53 : TI := { und := some (.struct #[{ name := "l", type := 33, offset := 0, byteOffset := 0, embedded := false, tag := "", pkgPath := "pagemend/pagemenddraw" }, { name := "at", type := 3, offset := 1, byteOffset := 24, embedded := false, tag := "", pkgPath := "pagemend/pagemenddraw" }]), info := some (2), zs := true, size := 2, bytes := 32, agg := true, nil := .nilsl, elem := none, zero := some ([.sl (.int .u8) [] (some true) (some 0), .int .i64 0]), eq := none, key := none, arr := none }
noncomputable def ti54 : TI := { und := some (.struct #[{ name := "l", type := 33, offset := 0, byteOffset := 0, embedded := false, tag := "", pkgPath := "pagemend/pagemenddraw" }, { name := "at", type := 3, offset := 1, byteOffset := 24, embedded := false, tag := "", pkgPath := "pagemend/pagemenddraw" }]), info := some (2), zs := true, size := 2, bytes := 32, agg := true, nil := .nilsl, elem := none, zero := some ([.sl (.int .u8) [] (some true) (some 0), .int .i64 0]), eq := none, key := none, arr := none }
noncomputable def ti55 : TI := { und := some (.func #[25, 56, 56] #[25] false), info := some (1), zs := true, size := 1, bytes := 8, agg := false, nil := .nilsl, elem := none, zero := some ([.nilfn]), eq := none, key := none, arr := none }
noncomputable def ti56 : TI := { und := some (.func #[29] #[4] false), info := some (1), zs := true, size := 1, bytes := 8, agg := false, nil := .nilsl, elem := none, zero := some ([.nilfn]), eq := none, key := none, arr := none }
noncomputable def ti57 : TI := { und := some (.tuple #[29, 4]), info := some (1), zs := true, size := 1, bytes := 0, agg := false, nil := .nilsl, elem := none, zero := none, eq := none, key := none, arr := none }
noncomputable def ti58 : TI := { und := some (.func #[25, 3] #[29, 4] false), info := some (1), zs := true, size := 1, bytes := 8, agg := false, nil := .nilsl, elem := none, zero := some ([.nilfn]), eq := none, key := none, arr := none }
noncomputable def ti59 : TI := { und := some (.func #[25, 3, 27] #[3] false), info := some (1), zs := true, size := 1, bytes := 8, agg := false, nil := .nilsl, elem := none, zero := some ([.nilfn]), eq := none, key := none, arr := none }
noncomputable def ti60 : TI := { und := some (.func #[25] #[25] false), info := some (1), zs := true, size := 1, bytes := 8, agg := false, nil := .nilsl, elem := none, zero := some ([.nilfn]), eq := none, key := none, arr := none }
noncomputable def ti61 : TI := { und := some (.func #[23, 3, 23] #[23] true), info := some (1), zs := true, size := 1, bytes := 8, agg := false, nil := .nilsl, elem := none, zero := some ([.nilfn]), eq := none, key := none, arr := none }
noncomputable def ti62 : TI := { und := some (.func #[25, 29] #[3] false), info := some (1), zs := true, size := 1, bytes := 8, agg := false, nil := .nilsl, elem := none, zero := some ([.nilfn]), eq := none, key := none, arr := none }
noncomputable def ti63 : TI := { und := some (.func #[29, 29] #[4] false), info := some (1), zs := true, size := 1, bytes := 8, agg := false, nil := .nilsl, elem := none, zero := some ([.nilfn]), eq := none, key := none, arr := none }
noncomputable def ti64 : TI := { und := some (.func #[29, 29] #[3] false), info := some (1), zs := true, size := 1, bytes := 8, agg := false, nil := .nilsl, elem := none, zero := some ([.nilfn]), eq := none, key := none, arr := none }
noncomputable def ti65 : TI := { und := some (.func #[23, 56] #[4] false), info := some (1), zs := true, size := 1, bytes := 8, agg := false, nil := .nilsl, elem := none, zero := some ([.nilfn]), eq := none, key := none, arr := none }
noncomputable def ti66 : TI := { und := some (.func #[23, 56] #[3] false), info := some (1), zs := true, size := 1, bytes := 8, agg := false, nil := .nilsl, elem := none, zero := some ([.nilfn]), eq := none, key := none, arr := none }
noncomputable def ti67 : TI := { und := some (.slice 23), info := some (1), zs := true, size := 1, bytes := 24, agg := false, nil := .sl (.sl (.pair (.int .i64) (.pair (.pair (.int .i64) (.int .i64)) (.int .i64)))) [] (some true) (some 0), elem := some ((.sl (.pair (.int .i64) (.pair (.pair (.int .i64) (.int .i64)) (.int .i64))))), zero := some ([.sl (.sl (.pair (.int .i64) (.pair (.pair (.int .i64) (.int .i64)) (.int .i64)))) [] (some true) (some 0)]), eq := none, key := none, arr := none }
noncomputable def ti68 : TI := { und := some (.func #[30] #[] false), info := some (1), zs := true, size := 1, bytes := 8, agg := false, nil := .nilsl, elem := none, zero := some ([.nilfn]), eq := none, key := none, arr := none }
noncomputable def ti69 : TI := { und := some (.func #[30, 3] #[3] false), info := some (1), zs := true, size := 1, bytes := 8, agg := false, nil := .nilsl, elem := none, zero := some ([.nilfn]), eq := none, key := none, arr := none }
noncomputable def ti70 : TI := { und := some (.func #[23, 56] #[23] false), info := some (1), zs := true, size := 1, bytes := 8, agg := false, nil := .nilsl, elem := none, zero := some ([.nilfn]), eq := none, key := none, arr := none }
noncomputable def ti71 : TI := { und := some (.tuple #[3, 4]), info := some (1), zs := true, size := 1, bytes := 0, agg := false, nil := .nilsl, elem := none, zero := none, eq := none, key := none, arr := none }
noncomputable def ti72 : TI := { und := some (.func #[23, 3, 27] #[3, 4] false), info := some (1), zs := true, size := 1, bytes := 8, agg := false, nil := .nilsl, elem := none, zero := some ([.nilfn]), eq := none, key := none, arr := none }
noncomputable def ti73 : TI := { und := some (.func #[23] #[23] false), info := some (1), zs := true, size := 1, bytes := 8, agg := false, nil := .nilsl, elem := none, zero := some ([.nilfn]), eq := none, key := none, arr := none }
noncomputable def ti74 : TI := { und := some (.func #[23, 23] #[4] false), info := some (1), zs := true, size := 1, bytes := 8, agg := false, nil := .nilsl, elem := none, zero := some ([.nilfn]), eq := none, key := none, arr := none }
noncomputable def ti75 : TI := { und := some (.func #[23, 3] #[] false), info := some (1), zs := true, size := 1, bytes := 8, agg := false, nil := .nilsl, elem := none, zero := some ([.nilfn]), eq := none, key := none, arr := none }
noncomputable def ti76 : TI := { und := some (.func #[25, 3] #[4] false), info := some (1), zs := true, size := 1, bytes := 8, agg := false, nil := .nilsl, elem := none, zero := some ([.nilfn]), eq := none, key := none, arr := none }
noncomputable def ti77 : TI := { und := some (.func #[23, 3, 3] #[23] false), info := some (1), zs := true, size := 1, bytes := 8, agg := false, nil := .nilsl, elem := none, zero := some ([.nilfn]), eq := none, key := none, arr := none }
noncomputable def ti78 : TI := { und := some (.func #[30] #[3] true), info := some (1), zs := true, size := 1, bytes := 8, agg := false, nil := .nilsl, elem := none, zero := some ([.nilfn]), eq := none, key := none, arr := none }
noncomputable def ti79 : TI := { und := some (.func #[3, 3] #[3] false), info := some (1), zs := true, size := 1, bytes := 8, agg := false, nil := .nilsl, elem := none, zero := some ([.nilfn]), eq := none, key := none, arr := none }
noncomputable def ti80 : TI := { und := some (.func #[30, 3, 3, 3] #[] false), info := some (1), zs := true, size := 1, bytes := 8, agg := false, nil := .nilsl, elem := none, zero := some ([.nilfn]), eq := none, key := none, arr := none }
noncomputable def ti81 : TI := { und := some (.func #[82] #[3] false), info := some (1), zs := true, size := 1, bytes := 8, agg := false, nil := .nilsl, elem := none, zero := some ([.nilfn]), eq := none, key := none, arr := none }
noncomputable def ti82 : TI := { und := some (.int .u64), info := some (1), zs := true, size := 1, bytes := 8, agg := false, nil := .nilsl, elem := none, zero := some ([.int .u64 0]), eq := some ((.int .u64)), key := none, arr := none }
noncomputable def ti83 : TI := { und := some (.func #[23, 29, 64] #[3, 4] false), info := some (1), zs := true, size := 1, bytes := 8, agg := false, nil := .nilsl, elem := none, zero := some ([.nilfn]), eq := none, key := none, arr := none }
noncomputable def ti84 : TI := { und := some (.func #[3] #[4] false), info := some (1), zs := true, size := 1, bytes := 8, agg := false, nil := .nilsl, elem := none, zero := some ([.nilfn]), eq := none, key := none, arr := none }
noncomputable def ti85 : TI := { und := some (.func #[30, 3, 3] #[] false), info := some (1), zs := true, size := 1, bytes := 8, agg := false, nil := .nilsl, elem := none, zero := some ([.nilfn]), eq := none, key := none, arr := none }
noncomputable def ti86 : TI := { und := some (.int .i64), info := some (1), zs := true, size := 1, bytes := 8, agg := false, nil := .nilsl, elem := none, zero := some ([.int .i64 0]), eq := some ((.int .i64)), key := none, arr := none }
noncomputable def ti87 : TI := { und := some (.tuple #[3, 86]), info := some (1), zs := true, size := 1, bytes := 0, agg := false, nil := .nilsl, elem := none, zero := none, eq := none, key := none, arr := none }
noncomputable def ti88 : TI := { und := some (.func #[30, 3, 3] #[3, 86] false), info := some (1), zs := true, size := 1, bytes := 8, agg := false, nil := .nilsl, elem := none, zero := some ([.nilfn]), eq := none, key := none, arr := none }
noncomputable def ti89 : TI := { und := some (.func #[30, 3, 3] #[4] false), info := some (1), zs := true, size := 1, bytes := 8, agg := false, nil := .nilsl, elem := none, zero := some ([.nilfn]), eq := none, key := none, arr := none }
noncomputable def ti90 : TI := { und := some (.func #[3, 3] #[4] false), info := some (1), zs := true, size := 1, bytes := 8, agg := false, nil := .nilsl, elem := none, zero := some ([.nilfn]), eq := none, key := none, arr := none }
noncomputable def ti91 : TI := { und := some (.func #[30, 3, 3, 3] #[3] false), info := some (1), zs := true, size := 1, bytes := 8, agg := false, nil := .nilsl, elem := none, zero := some ([.nilfn]), eq := none, key := none, arr := none }
noncomputable def ti92 : TI := { und := some (.func #[30, 3, 3, 3] #[3, 4] false), info := some (1), zs := true, size := 1, bytes := 8, agg := false, nil := .nilsl, elem := none, zero := some ([.nilfn]), eq := none, key := none, arr := none }
noncomputable def ti93 : TI := { und := some (.func #[94] #[3] false), info := some (1), zs := true, size := 1, bytes := 8, agg := false, nil := .nilsl, elem := none, zero := some ([.nilfn]), eq := none, key := none, arr := none }
noncomputable def ti94 : TI := { und := some (.int .u32), info := some (1), zs := true, size := 1, bytes := 4, agg := false, nil := .nilsl, elem := none, zero := some ([.int .u32 0]), eq := some ((.int .u32)), key := none, arr := none }
noncomputable def ti95 : TI := { und := some (.func #[96] #[3] false), info := some (1), zs := true, size := 1, bytes := 8, agg := false, nil := .nilsl, elem := none, zero := some ([.nilfn]), eq := none, key := none, arr := none }
noncomputable def ti96 : TI := { und := some (.int .u64), info := some (1), zs := true, size := 1, bytes := 8, agg := false, nil := .nilsl, elem := none, zero := some ([.int .u64 0]), eq := some ((.int .u64)), key := none, arr := none }
noncomputable def ti97 : TI := { und := some (.func #[23] #[] false), info := some (1), zs := true, size := 1, bytes := 8, agg := false, nil := .nilsl, elem := none, zero := some ([.nilfn]), eq := none, key := none, arr := none }
noncomputable def ti98 : TI := { und := some (.int .u64), info := some (1), zs := true, size := 1, bytes := 8, agg := false, nil := .nilsl, elem := none, zero := some ([.int .u64 0]), eq := some ((.int .u64)), key := none, arr := none }
noncomputable def ti99 : TI := { und := some (.func #[3] #[82] false), info := some (1), zs := true, size := 1, bytes := 8, agg := false, nil := .nilsl, elem := none, zero := some ([.nilfn]), eq := none, key := none, arr := none }
noncomputable def ti100 : TI := { und := some (.func #[] #[96] false), info := some (1), zs := true, size := 1, bytes := 8, agg := false, nil := .nilsl, elem := none, zero := some ([.nilfn]), eq := none, key := none, arr := none }
noncomputable def ti101 : TI := { und := some (.func #[30, 3, 102] #[3] false), info := some (1), zs := true, size := 1, bytes := 8, agg := false, nil := .nilsl, elem := none, zero := some ([.nilfn]), eq := none, key := none, arr := none }
noncomputable def ti102 : TI := { und := some (.pointer 3), info := some (1), zs := true, size := 1, bytes := 8, agg := false, nil := .nilsl, elem := none, zero := some ([.nilptr]), eq := none, key := none, arr := none }
noncomputable def ti103 : TI := { und := some (.func #[30, 3, 3, 3, 102] #[3] false), info := some (1), zs := true, size := 1, bytes := 8, agg := false, nil := .nilsl, elem := none, zero := some ([.nilfn]), eq := none, key := none, arr := none }
noncomputable def ti104 : TI := { und := some (.pointer 98), info := some (1), zs := true, size := 1, bytes := 8, agg := false, nil := .nilsl, elem := none, zero := some ([.nilptr]), eq := none, key := none, arr := none }
noncomputable def ti105 : TI := { und := some (.tuple #[3, 3]), info := some (1), zs := true, size := 1, bytes := 0, agg := false, nil := .nilsl, elem := none, zero := none, eq := none, key := none, arr := none }
noncomputable def ti106 : TI := { und := some (.func #[30, 3, 3, 102] #[3, 3] false), info := some (1), zs := true, size := 1, bytes := 8, agg := false, nil := .nilsl, elem := none, zero := some ([.nilfn]), eq := none, key := none, arr := none }
noncomputable def ti107 : TI := { und := some (.func #[] #[9] false), info := some (1), zs := true, size := 1, bytes := 8, agg := false, nil := .nilsl, elem := none, zero := some ([.nilfn]), eq := none, key := none, arr := none }
noncomputable def ti108 : TI := { und := some (.struct #[{ name := "_interface", type := 17, offset := 0, byteOffset := 0, embedded := false, tag := "", pkgPath := "runtime" }, { name := "concrete", type := 17, offset := 1, byteOffset := 8, embedded := false, tag := "", pkgPath := "runtime" }, { name := "asserted", type := 17, offset := 2, byteOffset := 16, embedded := false, tag := "", pkgPath := "runtime" }, { name := "missingMethod", type := 9, offset := 3, byteOffset := 24, embedded := false, tag := "", pkgPath := "runtime" }]), info := some (4), zs := true, size := 4, bytes := 40, agg := true, nil := .nilsl, elem := none, zero := some ([.nilptr, .nilptr, .nilptr, .str []]), eq := none, key := none, arr := none }
noncomputable def ti109 : TI := { und := some (.struct #[{ name := "_interface", type := 17, offset := 0, byteOffset := 0, embedded := false, tag := "", pkgPath := "runtime" }, { name := "concrete", type := 17, offset := 1, byteOffset := 8, embedded := false, tag := "", pkgPath := "runtime" }, { name := "asserted", type := 17, offset := 2, byteOffset := 16, embedded := false, tag := "", pkgPath := "runtime" }, { name := "missingMethod", type := 9, offset := 3, byteOffset := 24, embedded := false, tag := "", pkgPath := "runtime" }]), info := some (4), zs := true, size := 4, bytes := 40, agg := true, nil := .nilsl, elem := none, zero := some ([.nilptr, .nilptr, .nilptr, .str []]), eq := none, key := none, arr := none }
noncomputable def ti110 : TI := { und := some (.array 0 16), info := some (0), zs := true, size := 0, bytes := 0, agg := true, nil := .nilsl, elem := none, zero := some ([]), eq := none, key := none, arr := none }
noncomputable def ti111 : TI := { und := some (.struct #[{ name := "_", type := 110, offset := 0, byteOffset := 0, embedded := false, tag := "", pkgPath := "runtime" }]), info := some (0), zs := true, size := 0, bytes := 0, agg := true, nil := .nilsl, elem := none, zero := some ([]), eq := none, key := none, arr := none }
noncomputable def ti112 : TI := { und := some (.struct #[{ name := "_", type := 110, offset := 0, byteOffset := 0, embedded := false, tag := "", pkgPath := "runtime" }]), info := some (0), zs := true, size := 0, bytes := 0, agg := true, nil := .nilsl, elem := none, zero := some ([]), eq := none, key := none, arr := none }
noncomputable def ti113 : TI := { und := some (.int .u8), info := some (1), zs := true, size := 1, bytes := 1, agg := false, nil := .nilsl, elem := none, zero := some ([.int .u8 0]), eq := some ((.int .u8)), key := none, arr := none }
noncomputable def ti114 : TI := { und := some (.int .u8), info := some (1), zs := true, size := 1, bytes := 1, agg := false, nil := .nilsl, elem := none, zero := some ([.int .u8 0]), eq := some ((.int .u8)), key := none, arr := none }
noncomputable def ti115 : TI := { und := some (.func #[121, 121] #[4] false), info := some (1), zs := true, size := 1, bytes := 8, agg := false, nil := .nilsl, elem := none, zero := some ([.nilfn]), eq := none, key := none, arr := none }
noncomputable def ti116 : TI := { und := some (.pointer 5), info := some (1), zs := true, size := 1, bytes := 8, agg := false, nil := .nilsl, elem := none, zero := some ([.nilptr]), eq := none, key := none, arr := none }
noncomputable def ti117 : TI := { und := some (.int .i32), info := some (1), zs := true, size := 1, bytes := 4, agg := false, nil := .nilsl, elem := none, zero := some ([.int .i32 0]), eq := some ((.int .i32)), key := none, arr := none }
noncomputable def ti118 : TI := { und := some (.int .i32), info := some (1), zs := true, size := 1, bytes := 4, agg := false, nil := .nilsl, elem := none, zero := some ([.int .i32 0]), eq := some ((.int .i32)), key := none, arr := none }
noncomputable def ti119 : TI := { und := some (.struct #[{ name := "Size_", type := 12, offset := 0, byteOffset := 0, embedded := false, tag := "", pkgPath := "" }, { name := "PtrBytes", type := 12, offset := 1, byteOffset := 8, embedded := false, tag := "", pkgPath := "" }, { name := "Hash", type := 94, offset := 2, byteOffset := 16, embedded := false, tag := "", pkgPath := "" }, { name := "TFlag", type := 113, offset := 3, byteOffset := 20, embedded := false, tag := "", pkgPath := "" }, { name := "Align_", type := 5, offset := 4, byteOffset := 21, embedded := false, tag := "", pkgPath := "" }, { name := "FieldAlign_", type := 5, offset := 5, byteOffset := 22, embedded := false, tag := "", pkgPath := "" }, { name := "Kind_", type := 114, offset := 6, byteOffset := 23, embedded := false, tag := "", pkgPath := "" }, { name := "Equal", type := 115, offset := 7, byteOffset := 24, embedded := false, tag := "", pkgPath := "" }, { name := "GCData", type := 116, offset := 8, byteOffset := 32, embedded := false, tag := "", pkgPath := "" }, { name := "Str", type := 117, offset := 9, byteOffset := 40, embedded := false, tag := "", pkgPath := "" }, { name := "PtrToThis", type := 118, offset := 10, byteOffset := 44, embedded := false, tag := "", pkgPath := "" }]), info := some (11), zs := true, size := 11, bytes := 48, agg := true, nil := .nilsl, elem := none, zero := some ([.int .u64 0, .int .u64 0, .int .u32 0, .int .u8 0, .int .u8 0, .int .u8 0, .int .u8 0, .nilfn, .nilptr, .int .i32 0, .int .i32 0]), eq := none, key := none, arr := none }
noncomputable def ti120 : TI := { und := some (.struct #[{ name := "Size_", type := 12, offset := 0, byteOffset := 0, embedded := false, tag := "", pkgPath := "" }, { name := "PtrBytes", type := 12, offset := 1, byteOffset := 8, embedded := false, tag := "", pkgPath := "" }, { name := "Hash", type := 94, offset := 2, byteOffset := 16, embedded := false, tag := "", pkgPath := "" }, { name := "TFlag", type := 113, offset := 3, byteOffset := 20, embedded := false, tag := "", pkgPath := "" }, { name := "Align_", type := 5, offset := 4, byteOffset := 21, embedded := false, tag := "", pkgPath := "" }, { name := "FieldAlign_", type := 5, offset := 5, byteOffset := 22, embedded := false, tag := "", pkgPath := "" }, { name := "Kind_", type := 114, offset := 6, byteOffset := 23, embedded := false, tag := "", pkgPath := "" }, { name := "Equal", type := 115, offset := 7, byteOffset := 24, embedded := false, tag := "", pkgPath := "" }, { name := "GCData", type := 116, offset := 8, byteOffset := 32, embedded := false, tag := "", pkgPath := "" }, { name := "Str", type := 117, offset := 9, byteOffset := 40, embedded := false, tag := "", pkgPath := "" }, { name := "PtrToThis", type := 118, offset := 10, byteOffset := 44, embedded := false, tag := "", pkgPath := "" }]), info := some (11), zs := true, size := 11, bytes := 48, agg := true, nil := .nilsl, elem := none, zero := some ([.int .u64 0, .int .u64 0, .int .u32 0, .int .u8 0, .int .u8 0, .int .u8 0, .int .u8 0, .nilfn, .nilptr, .int .i32 0, .int .i32 0]), eq := none, key := none, arr := none }
noncomputable def ti121 : TI := { und := (Try.prog.underlying 121), info := some (1), zs := true, size := 1, bytes := 8, agg := false, nil := .nilsl, elem := none, zero := none, eq := none, key := none, arr := none }
noncomputable def types : TT := (.node 61 (.node 30 (.node 15 (.node 7 (.node 3 (.node 1 (.leaf ti0) (.node 2 (.leaf ti1) (.leaf ti2))) (.node 5 (.node 4 (.leaf ti3) (.leaf ti4)) (.node 6 (.leaf ti5) (.leaf ti6)))) (.node 11 (.node 9 (.node 8 (.leaf ti7) (.leaf ti8)) (.node 10 (.leaf ti9) (.leaf ti10))) (.node 13 (.node 12 (.leaf ti11) (.leaf ti12)) (.node 14 (.leaf ti13) (.leaf ti14))))) (.node 22 (.node 18 (.node 16 (.leaf ti15) (.node 17 (.leaf ti16) (.leaf ti17))) (.node 20 (.node 19 (.leaf ti18) (.leaf ti19)) (.node 21 (.leaf ti20) (.leaf ti21)))) (.node 26 (.node 24 (.node 23 (.leaf ti22) (.leaf ti23)) (.node 25 (.leaf ti24) (.leaf ti25))) (.node 28 (.node 27 (.leaf ti26) (.leaf ti27)) (.node 29 (.leaf ti28) (.leaf ti29)))))) (.node 45 (.node 37 (.node 33 (.node 31 (.leaf ti30) (.node 32 (.leaf ti31) (.leaf ti32))) (.node 35 (.node 34 (.leaf ti33) (.leaf ti34)) (.node 36 (.leaf ti35) (.leaf ti36)))) (.node 41 (.node 39 (.node 38 (.leaf ti37) (.leaf ti38)) (.node 40 (.leaf ti39) (.leaf ti40))) (.node 43 (.node 42 (.leaf ti41) (.leaf ti42)) (.node 44 (.leaf ti43) (.leaf ti44))))) (.node 53 (.node 49 (.node 47 (.node 46 (.leaf ti45) (.leaf ti46)) (.node 48 (.leaf ti47) (.leaf ti48))) (.node 51 (.node 50 (.leaf ti49) (.leaf ti50)) (.node 52 (.leaf ti51) (.leaf ti52)))) (.node 57 (.node 55 (.node 54 (.leaf ti53) (.leaf ti54)) (.node 56 (.leaf ti55) (.leaf ti56))) (.node 59 (.node 58 (.leaf ti57) (.leaf ti58)) (.node 60 (.leaf ti59) (.leaf ti60))))))) (.node 91 (.node 76 (.node 68 (.node 64 (.node 62 (.leaf ti61) (.node 63 (.leaf ti62) (.leaf ti63))) (.node 66 (.node 65 (.leaf ti64) (.leaf ti65)) (.node 67 (.leaf ti66) (.leaf ti67)))) (.node 72 (.node 70 (.node 69 (.leaf ti68) (.leaf ti69)) (.node 71 (.leaf ti70) (.leaf ti71))) (.node 74 (.node 73 (.leaf ti72) (.leaf ti73)) (.node 75 (.leaf ti74) (.leaf ti75))))) (.node 83 (.node 79 (.node 77 (.leaf ti76) (.node 78 (.leaf ti77) (.leaf ti78))) (.node 81 (.node 80 (.leaf ti79) (.leaf ti80)) (.node 82 (.leaf ti81) (.leaf ti82)))) (.node 87 (.node 85 (.node 84 (.leaf ti83) (.leaf ti84)) (.node 86 (.leaf ti85) (.leaf ti86))) (.node 89 (.node 88 (.leaf ti87) (.leaf ti88)) (.node 90 (.leaf ti89) (.leaf ti90)))))) (.node 106 (.node 98 (.node 94 (.node 92 (.leaf ti91) (.node 93 (.leaf ti92) (.leaf ti93))) (.node 96 (.node 95 (.leaf ti94) (.leaf ti95)) (.node 97 (.leaf ti96) (.leaf ti97)))) (.node 102 (.node 100 (.node 99 (.leaf ti98) (.leaf ti99)) (.node 101 (.leaf ti100) (.leaf ti101))) (.node 104 (.node 103 (.leaf ti102) (.leaf ti103)) (.node 105 (.leaf ti104) (.leaf ti105))))) (.node 114 (.node 110 (.node 108 (.node 107 (.leaf ti106) (.leaf ti107)) (.node 109 (.leaf ti108) (.leaf ti109))) (.node 112 (.node 111 (.leaf ti110) (.leaf ti111)) (.node 113 (.leaf ti112) (.leaf ti113)))) (.node 118 (.node 116 (.node 115 (.leaf ti114) (.leaf ti115)) (.node 117 (.leaf ti116) (.leaf ti117))) (.node 120 (.node 119 (.leaf ti118) (.leaf ti119)) (.node 121 (.leaf ti120) (.leaf ti121))))))))
def ntypes : Nat := 122
noncomputable def T : TypeId → TI := fun t => bif Nat.blt t ntypes then types.get t else tiOf Try.prog t
def srs : List Nat := [6, 7, 11, 12, 13, 14, 15, 18, 20, 22, 23, 32, 33, 35, 48, 50, 53, 57]
def sr : FuncId → Bool := fun f => bif Nat.blt f 101 then mem? f srs else true
/-- gosem.cut.init -/
noncomputable def fx2 : FX := { nt := 1, res := [], ll := [], lx := [], bef := [], pol := .pure, code := Try.f2.body }
/-- pagemend/pagemendlaw09.WaitsRings -/
noncomputable def fx3 : FX := { nt := 92, res := [.tmp 6], ll := [(21, [7, 11, 12, 13]), (10, [1, 2, 7, 8, 10]), (6, [1, 2, 7, 8, 9])], lx := [(4, []), (5, [7, 11, 12, 13]), (2, [1, 2, 7, 8]), (3, [1, 2, 7, 8, 10]), (0, [1, 2, 7, 8]), (1, [1, 2, 7, 8, 9])], bef := [(13, [0, 1, 0, 4, 0, 16, 0, 112, 240, 508, 1020, 2047, 4095, 8191]), (23, [0, 0, 3, 7, 0, 0, 48, 0, 240, 496, 1023])], pol := .pure, code := Try.f3.body }
/-- pagemend/pagemendlaw09.WaitsArise -/
noncomputable def fx4 : FX := { nt := 111, res := [.tmp 2], ll := [(31, [3, 4, 11, 12, 13]), (25, [3, 4, 11]), (5, [3, 4])], lx := [(0, []), (1, [3, 4]), (3, [3, 4]), (4, [3, 4, 11]), (5, [3, 4, 11]), (6, [3, 4, 11, 12, 13]), (2, [3, 4])], bef := [], pol := .pure, code := Try.f4.body }
/-- pagemend/pagemendlaw09.awake -/
noncomputable def fx5 : FX := { nt := 35, res := [.tmp 0], ll := [], lx := [], bef := [], pol := .pure, code := Try.f5.body }
/-- pagemend/waits.Cycle -/
noncomputable def fx6 : FX := { nt := 60, res := [.tmp 4], ll := [(12, [1, 2, 5, 6, 7, 40, 41, 42]), (5, [1, 2, 5, 6])], lx := [(0, []), (1, [1, 2, 5, 6]), (2, [1, 2, 5, 6]), (3, [1, 2, 5, 6, 7, 40, 41, 42])], bef := [(8, [0, 0, 0, 4, 12, 30, 62, 127, 255])], pol := .pure, code := Try.f6.body }
/-- pagemend/pagemenddraw.New -/
noncomputable def fx7 : FX := { nt := 15, res := [.tmp 4], ll := [], lx := [], bef := [], pol := .share, code := Try.f7.body }
/-- (*pagemend/pagemenddraw.Codes).Left -/
noncomputable def fx8 : FX := { nt := 13, res := [.tmp 2], ll := [], lx := [], bef := [(1, [0, 1, 3, 7, 15, 0, 32, 96, 224, 511, 1023])], pol := .share, code := Try.f8.body }
/-- (*pagemend/pagemenddraw.Codes).Grant -/
noncomputable def fx9 : FX := { nt := 15, res := [.cell 2 29], ll := [], lx := [], bef := [], pol := .share, code := Try.f9.body }
/-- (*pagemend/pagemenddraw.Codes).Next -/
noncomputable def fx10 : FX := { nt := 50, res := [.tmp 4], ll := [], lx := [], bef := [(1, [0, 1, 3, 7, 0, 16, 48, 112, 240, 511, 1023, 2047, 4095, 8191]), (3, [0, 1, 3, 7, 0, 16, 48, 112, 255, 511, 1023, 2047])], pol := .share, code := Try.f10.body }
/-- pagemend/locks.Cancel -/
noncomputable def fx11 : FX := { nt := 8, res := [.cell 4 25], ll := [], lx := [], bef := [], pol := .pure, code := Try.f11.body }
/-- pagemend/locks.Drop -/
noncomputable def fx12 : FX := { nt := 10, res := [.cell 6 25], ll := [], lx := [], bef := [], pol := .pure, code := Try.f12.body }
/-- pagemend/locks.Release -/
noncomputable def fx13 : FX := { nt := 11, res := [.cell 4 25], ll := [], lx := [], bef := [], pol := .pure, code := Try.f13.body }
/-- pagemend/locks.Request -/
noncomputable def fx14 : FX := { nt := 81, res := [.cell 4 25, .tmp 5, .tmp 6], ll := [], lx := [(1, [2, 3, 4]), (0, [2, 3, 4])], bef := [(10, [0, 0, 2, 0, 8, 31, 0, 64, 255, 511]), (15, [0, 1, 0, 0, 12, 0, 32, 127, 255, 511]), (17, [0, 0, 0, 4, 0, 16, 62, 0, 128, 510, 127, 2047, 4095])], pol := .pure, code := Try.f14.body }
/-- pagemend/waits.Would -/
noncomputable def fx15 : FX := { nt := 23, res := [.tmp 4, .tmp 5], ll := [], lx := [], bef := [], pol := .pure, code := Try.f15.body }
/-- pagemend/pagemendref09.Ints -/
noncomputable def fx16 : FX := { nt := 26, res := [.tmp 4], ll := [(4, [0, 1, 5])], lx := [(0, []), (1, [0, 1, 5])], bef := [(6, [0, 0, 3, 7, 0, 0, 48, 112, 255])], pol := .pure, code := Try.f16.body }
/-- pagemend/pagemendref08.Valid -/
noncomputable def fx17 : FX := { nt := 121, res := [.tmp 2], ll := [(20, [1, 5, 6, 7]), (14, [1, 5]), (9, [1, 3, 4]), (4, [1, 3])], lx := [(4, []), (5, [1, 5]), (6, [1, 5]), (7, [1, 5, 6, 7]), (0, [1]), (1, [1, 3]), (2, [1, 3]), (3, [1, 3, 4])], bef := [(6, [0, 1, 0, 7, 15, 31, 63, 127, 255, 511, 1023, 2047, 4095, 2047, 10239, 32767, 65535, 2047, 133119, 2047, 919551, 1968127, 4194303, 8388607, 16777215, 33554431]), (9, [0, 1, 3, 7, 15, 7, 63, 127, 255, 7, 519, 7, 3591, 7687, 15879, 32767, 65535]), (11, [0, 1, 0, 7, 15, 0, 32, 0, 224, 480, 1023]), (17, [0, 1, 3, 7, 15, 15, 47, 15, 143, 511, 15, 1039, 4095, 8191]), (22, [0, 1, 0, 7, 15, 31, 0, 64, 255])], pol := .pure, code := Try.f17.body }
/-- pagemend/waits.For -/
noncomputable def fx18 : FX := { nt := 11, res := [.tmp 4], ll := [], lx := [], bef := [], pol := .pure, code := Try.f18.body }
/-- pagemend/locks.Valid -/
noncomputable def fx19 : FX := { nt := 83, res := [.tmp 2], ll := [(10, [1, 53, 54, 55]), (4, [1, 16, 17, 18])], lx := [(2, []), (3, [1, 53, 54, 55]), (0, [1]), (1, [1, 16, 17, 18])], bef := [(6, [0, 1, 3, 7, 15, 31, 63, 127, 255, 127, 639, 2047, 4095, 127, 16383, 32767, 65535, 131071, 262143, 131071, 655359, 2097151, 4194303, 131071, 16777215, 33554431, 67108863, 134217727]), (12, [0, 1, 3, 7, 15, 15, 47, 15, 143, 511, 15, 1039, 4095, 8191, 16383, 32767, 65535, 32767, 262143, 32767, 1048575, 2097151])], pol := .pure, code := Try.f19.body }
/-- pagemend/waits.blockers -/
noncomputable def fx20 : FX := { nt := 53, res := [.tmp 4], ll := [(9, [2, 5, 6, 23, 24, 25, 29, 30, 31]), (6, [2, 5, 6, 23, 24, 25])], lx := [(0, [6]), (1, [2, 5, 6, 23, 24, 25]), (2, [2, 5, 6, 23, 24, 25]), (3, [2, 5, 6, 23, 24, 25, 29, 30, 31])], bef := [(5, [0, 1, 0, 4, 0, 28, 63, 127, 0]), (11, [0, 0, 2, 0, 14, 30, 63])], pol := .pure, code := Try.f20.body }
/-- slices.Contains[[]int,int] -/
noncomputable def fx21 : FX := { nt := 9, res := [.tmp 4], ll := [], lx := [], bef := [], pol := .share, code := Try.f21.body }
/-- slices.Clone[[]int,int] -/
noncomputable def fx22 : FX := { nt := 8, res := [.tmp 2], ll := [], lx := [], bef := [], pol := .fresh, code := Try.f22.body }
/-- pagemend/locks.without -/
noncomputable def fx23 : FX := { nt := 25, res := [.cell 6 25], ll := [], lx := [], bef := [], pol := .share, code := Try.f23.body }
/-- pagemend/locks.Cancel$1 -/
noncomputable def fx24 : FX := { nt := 3, res := [.tmp 2], ll := [], lx := [], bef := [], pol := .pure, code := Try.f24.body }
/-- pagemend/locks.Cancel$2 -/
noncomputable def fx25 : FX := { nt := 8, res := [.tmp 3], ll := [], lx := [], bef := [], pol := .share, code := Try.f25.body }
/-- pagemend/locks.Drop$1 -/
noncomputable def fx26 : FX := { nt := 15, res := [.tmp 4], ll := [], lx := [], bef := [], pol := .share, code := Try.f26.body }
/-- pagemend/locks.Drop$2 -/
noncomputable def fx27 : FX := { nt := 3, res := [.tmp 2], ll := [], lx := [], bef := [], pol := .pure, code := Try.f27.body }
/-- pagemend/locks.Release$1 -/
noncomputable def fx28 : FX := { nt := 8, res := [.tmp 3], ll := [], lx := [], bef := [], pol := .share, code := Try.f28.body }
/-- pagemend/locks.valid -/
noncomputable def fx29 : FX := { nt := 45, res := [.tmp 2], ll := [], lx := [], bef := [], pol := .pure, code := Try.f29.body }
/-- pagemend/locks.Waiting -/
noncomputable def fx30 : FX := { nt := 24, res := [.cell 4 29, .tmp 5], ll := [], lx := [], bef := [], pol := .pure, code := Try.f30.body }
/-- pagemend/locks.mode -/
noncomputable def fx31 : FX := { nt := 24, res := [.tmp 6], ll := [], lx := [], bef := [], pol := .pure, code := Try.f31.body }
/-- pagemend/locks.own -/
noncomputable def fx32 : FX := { nt := 10, res := [.cell 2 25], ll := [], lx := [], bef := [(1, [0, 1, 3, 0, 8, 31, 63, 127])], pol := .fresh, code := Try.f32.body }
/-- slices.Insert[[]pagemend/api.Grant,pagemend/api.Grant] -/
noncomputable def fx33 : FX := { nt := 95, res := [.tmp 6], ll := [], lx := [], bef := [(11, [0, 0, 0, 6, 15, 0, 0, 96, 255]), (15, [0, 0, 0, 6, 15, 0, 0, 96, 255])], pol := .share, code := Try.f33.body }
/-- pagemend/locks.place -/
noncomputable def fx34 : FX := { nt := 51, res := [.tmp 4], ll := [(4, [2, 3, 18, 19, 20])], lx := [(0, [2]), (1, [2, 3, 18, 19, 20])], bef := [], pol := .pure, code := Try.f34.body }
/-- pagemend/locks.settle -/
noncomputable def fx35 : FX := { nt := 57, res := [.cell 2 25], ll := [(5, [1, 2, 3, 4]), (2, [1, 2, 3])], lx := [(0, [1, 2]), (1, [1, 2, 3]), (2, [1, 2, 3]), (3, [1, 2, 3, 4])], bef := [], pol := .share, code := Try.f35.body }
/-- pagemend/pagemendref08.grant -/
noncomputable def fx36 : FX := { nt := 45, res := [.tmp 2], ll := [], lx := [], bef := [], pol := .pure, code := Try.f36.body }
/-- pagemend/pagemendref08.less -/
noncomputable def fx37 : FX := { nt := 38, res := [.tmp 4], ll := [], lx := [], bef := [], pol := .pure, code := Try.f37.body }
/-- pagemend/pagemendref08.Conflict -/
noncomputable def fx38 : FX := { nt := 27, res := [.tmp 4], ll := [], lx := [], bef := [], pol := .pure, code := Try.f38.body }
/-- pagemend/pagemendref08.mode -/
noncomputable def fx39 : FX := { nt := 39, res := [.tmp 6], ll := [(2, [1, 3, 5, 7])], lx := [(0, []), (1, [1, 3, 5, 7])], bef := [(4, [0, 1, 0, 7, 15, 31, 0, 127, 255, 511, 1023, 511, 4095, 8191, 16383, 511, 65535, 131071])], pol := .pure, code := Try.f39.body }
/-- pagemend/locks.order -/
noncomputable def fx40 : FX := { nt := 26, res := [.tmp 4], ll := [], lx := [], bef := [(1, [0, 1, 3, 0, 8, 24, 63, 0, 128, 384, 0, 1024, 3072, 8191, 0, 16384, 0, 65536, 262143, 524287, 1048575, 2097151])], pol := .pure, code := Try.f40.body }
/-- pagemend/locks.conflict -/
noncomputable def fx41 : FX := { nt := 27, res := [.tmp 4], ll := [], lx := [], bef := [], pol := .pure, code := Try.f41.body }
/-- slices.ContainsFunc[[]pagemend/api.Grant,pagemend/api.Grant] -/
noncomputable def fx42 : FX := { nt := 9, res := [.tmp 4], ll := [], lx := [], bef := [], pol := .share, code := Try.f42.body }
/-- pagemend/locks.Valid$1 -/
noncomputable def fx43 : FX := { nt := 9, res := [.tmp 3], ll := [], lx := [], bef := [], pol := .share, code := Try.f43.body }
/-- slices.IndexFunc[[]pagemend/api.Grant,pagemend/api.Grant] -/
noncomputable def fx44 : FX := { nt := 19, res := [.tmp 4], ll := [(2, [0, 1, 7, 8])], lx := [(0, []), (1, [0, 1, 7, 8])], bef := [], pol := .share, code := Try.f44.body }
/-- pagemend/waits.blockers$1 -/
noncomputable def fx45 : FX := { nt := 8, res := [.tmp 3], ll := [], lx := [], bef := [], pol := .share, code := Try.f45.body }
/-- pagemend/waits.conflict -/
noncomputable def fx46 : FX := { nt := 27, res := [.tmp 4], ll := [], lx := [], bef := [], pol := .pure, code := Try.f46.body }
/-- slices.Sort[[]int,int] -/
noncomputable def fx47 : FX := { nt := 11, res := [], ll := [], lx := [], bef := [], pol := .share, code := Try.f47.body }
/-- slices.Compact[[]int,int] -/
noncomputable def fx48 : FX := { nt := 61, res := [.tmp 2], ll := [(9, [0, 3, 4, 5]), (4, [0, 3])], lx := [(0, [0]), (1, [0, 3]), (2, [0, 3]), (3, [0, 3, 4, 5])], bef := [(6, [0, 0, 3, 7, 0, 0, 32, 112, 240, 511]), (11, [0, 0, 3, 7, 0, 0, 32, 112, 240, 511])], pol := .share, code := Try.f48.body }
/-- slices.Index[[]int,int] -/
noncomputable def fx49 : FX := { nt := 19, res := [.tmp 4], ll := [(2, [0, 1, 7, 8])], lx := [(0, []), (1, [0, 1, 7, 8])], bef := [], pol := .share, code := Try.f49.body }
/-- slices.DeleteFunc[[]pagemend/api.Grant,pagemend/api.Grant] -/
noncomputable def fx50 : FX := { nt := 42, res := [.tmp 4], ll := [(5, [0, 1, 5, 6])], lx := [(0, [0, 5]), (1, [0, 1, 5, 6])], bef := [], pol := .share, code := Try.f50.body }
/-- pagemend/locks.Waiting$1 -/
noncomputable def fx51 : FX := { nt := 8, res := [.tmp 3], ll := [], lx := [], bef := [], pol := .share, code := Try.f51.body }
/-- pagemend/locks.find -/
noncomputable def fx52 : FX := { nt := 15, res := [.tmp 6, .tmp 7], ll := [], lx := [], bef := [], pol := .pure, code := Try.f52.body }
/-- slices.Clone[[]pagemend/api.Grant,pagemend/api.Grant] -/
noncomputable def fx53 : FX := { nt := 8, res := [.tmp 2], ll := [], lx := [], bef := [], pol := .fresh, code := Try.f53.body }
/-- slices.rotateRight[pagemend/api.Grant] -/
noncomputable def fx55 : FX := { nt := 10, res := [], ll := [], lx := [], bef := [], pol := .share, code := Try.f55.body }
/-- pagemend/locks.blocked -/
noncomputable def fx56 : FX := { nt := 19, res := [.tmp 4], ll := [], lx := [], bef := [], pol := .pure, code := Try.f56.body }
/-- slices.Delete[[]pagemend/api.Grant,pagemend/api.Grant] -/
noncomputable def fx57 : FX := { nt := 33, res := [.tmp 6], ll := [], lx := [], bef := [(5, [0, 0, 3, 0, 0, 24, 63, 127])], pol := .share, code := Try.f57.body }
/-- cmp.Or[int] -/
noncomputable def fx58 : FX := { nt := 18, res := [.tmp 2], ll := [(3, [3, 6, 7, 8])], lx := [(0, [3]), (1, [3, 6, 7, 8])], bef := [], pol := .pure, code := Try.f58.body }
/-- cmp.Compare[int] -/
noncomputable def fx59 : FX := { nt := 20, res := [.tmp 4], ll := [], lx := [], bef := [], pol := .pure, code := Try.f59.body }
/-- slices.pdqsortOrdered[int] -/
noncomputable def fx60 : FX := { nt := 134, res := [], ll := [(2, [0, 1, 2, 3, 8, 9])], lx := [(0, []), (1, [0, 1, 2, 3, 8, 9])], bef := [(17, [0, 1, 3, 7, 7, 23, 63, 127, 7, 7, 775, 1799, 4095, 8191, 16383])], pol := .share, code := Try.f60.body }
/-- math/bits.Len -/
noncomputable def fx61 : FX := { nt := 8, res := [.tmp 2], ll := [], lx := [], bef := [], pol := .pure, code := Try.f61.body }
/-- slices.BinarySearchFunc[[]pagemend/api.Grant,pagemend/api.Grant,pagemend/api.Grant] -/
noncomputable def fx62 : FX := { nt := 49, res := [.tmp 6, .tmp 7], ll := [(3, [0, 2, 4, 8, 9, 10])], lx := [(0, [0, 2, 4, 8, 9]), (1, [0, 2, 4, 8, 9, 10])], bef := [(5, [0, 0, 0, 6, 14, 0, 63, 127]), (8, [0, 0, 0, 6, 14, 30, 30, 30, 222, 478, 30, 2046, 4094, 8190, 4095, 32767])], pol := .share, code := Try.f62.body }
/-- slices.rotateLeft[pagemend/api.Grant] -/
noncomputable def fx63 : FX := { nt := 14, res := [], ll := [], lx := [], bef := [], pol := .share, code := Try.f63.body }
/-- pagemend/locks.blocked$1 -/
noncomputable def fx64 : FX := { nt := 12, res := [.tmp 4], ll := [], lx := [], bef := [(1, [0, 0, 2, 0, 14, 30, 63, 127])], pol := .share, code := Try.f64.body }
/-- cmp.isNaN[int] -/
noncomputable def fx65 : FX := { nt := 6, res := [.tmp 2], ll := [], lx := [], bef := [], pol := .pure, code := Try.f65.body }
/-- slices.insertionSortOrdered[int] -/
noncomputable def fx66 : FX := { nt := 49, res := [], ll := [(4, [0, 1, 2, 6, 7]), (1, [0, 1, 2, 6])], lx := [(0, []), (1, [0, 1, 2, 6]), (2, [0, 1, 2, 6]), (3, [0, 1, 2, 6, 7])], bef := [(4, [0, 0, 3, 7, 15, 15, 63, 127, 15, 15, 527, 1807, 3855, 8191, 16383]), (6, [0, 0, 0, 0, 8, 0, 0, 64, 224, 480, 0, 0, 3072, 7168, 16355, 32739, 65535, 131071])], pol := .share, code := Try.f66.body }
/-- slices.heapSortOrdered[int] -/
noncomputable def fx67 : FX := { nt := 56, res := [], ll := [(8, [0, 6, 7, 10]), (4, [0, 6, 7, 8, 9])], lx := [(2, []), (3, [0, 6, 7, 10]), (0, [0, 6, 7, 8]), (1, [0, 6, 7, 8, 9])], bef := [(10, [0, 0, 0, 0, 0, 24, 0, 0, 0, 384, 960, 1984, 0, 0, 12288, 28672, 65475, 131011, 262143, 524287])], pol := .share, code := Try.f67.body }
/-- slices.breakPatternsOrdered[int] -/
noncomputable def fx68 : FX := { nt := 65, res := [], ll := [(5, [0, 1, 6, 7, 8, 9])], lx := [(0, []), (1, [0, 1, 6, 7, 8, 9])], bef := [(10, [0, 0, 0, 0, 0, 24, 0, 0, 0, 384, 960, 1984, 0, 0, 12288, 28672, 65475, 131011, 262143, 524287])], pol := .share, code := Try.f68.body }
/-- slices.choosePivotOrdered[int] -/
noncomputable def fx69 : FX := { nt := 57, res := [.tmp 6, .tmp 7], ll := [], lx := [(0, [6, 7])], bef := [], pol := .share, code := Try.f69.body }
/-- slices.reverseRangeOrdered[int] -/
noncomputable def fx70 : FX := { nt := 32, res := [], ll := [(2, [0, 6, 7])], lx := [(0, []), (1, [0, 6, 7])], bef := [(3, [0, 0, 0, 0, 0, 0, 48, 112, 0, 0, 768, 1792, 4083, 8179, 16383, 32767])], pol := .share, code := Try.f70.body }
/-- slices.partialInsertionSortOrdered[int] -/
noncomputable def fx71 : FX := { nt := 133, res := [.tmp 6], ll := [(20, [0, 1, 2, 7, 8, 10]), (14, [0, 1, 2, 7, 8, 9]), (5, [0, 1, 2, 7, 8]), (3, [0, 1, 2, 7, 8])], lx := [(0, []), (1, [0, 1, 2, 7, 8]), (6, [0, 1, 2, 7, 8]), (7, [0, 1, 2, 7, 8, 10]), (4, [0, 1, 2, 7, 8]), (5, [0, 1, 2, 7, 8, 9]), (2, [0, 1, 2, 7, 8]), (3, [0, 1, 2, 7, 8])], bef := [(5, [0, 0, 3, 7, 15, 15, 63, 127, 15, 15, 527, 1807, 3855, 8191, 16383, 32767]), (11, [0, 0, 0, 0, 8, 0, 0, 64, 224, 480, 0, 0, 3072, 7168, 16355, 32739, 65535, 131071]), (16, [0, 0, 3, 7, 0, 0, 32, 112, 240, 511, 1023]), (17, [0, 0, 0, 0, 8, 0, 0, 64, 224, 480, 0, 0, 3072, 7168, 16355, 32739, 65535, 131071]), (22, [0, 0, 3, 7, 0, 0, 32, 112, 240, 511, 1023]), (23, [0, 0, 0, 0, 8, 0, 0, 64, 224, 480, 0, 0, 3072, 7168, 16355, 32739, 65535, 131071])], pol := .share, code := Try.f71.body }
/-- cmp.Less[int] -/
noncomputable def fx72 : FX := { nt := 17, res := [.tmp 4], ll := [], lx := [], bef := [], pol := .pure, code := Try.f72.body }
/-- slices.partitionEqualOrdered[int] -/
noncomputable def fx73 : FX := { nt := 84, res := [.tmp 8], ll := [(5, [0, 1, 9, 10]), (3, [0, 1, 9, 10])], lx := [(0, [9]), (1, [0, 1, 9, 10]), (4, [0, 1, 9, 10]), (5, [0, 1, 9, 10]), (2, [0, 1, 9, 10]), (3, [0, 1, 9, 10])], bef := [(1, [0, 0, 0, 0, 0, 0, 48, 112, 0, 0, 768, 1792, 4083, 8179, 16383, 32767]), (3, [0, 0, 3, 7, 15, 15, 63, 127, 15, 15, 783, 1807, 4095, 8191, 16383]), (5, [0, 0, 3, 7, 15, 15, 63, 127, 15, 15, 783, 1807, 4095, 8191]), (8, [0, 0, 0, 0, 0, 0, 48, 112, 0, 0, 768, 1792, 4083, 8179, 16383, 32767])], pol := .share, code := Try.f73.body }
/-- slices.partitionOrdered[int] -/
noncomputable def fx74 : FX := { nt := 168, res := [.tmp 8, .tmp 9], ll := [(15, [0, 1, 10, 11]), (13, [0, 1, 10, 11]), (5, [0, 1, 10, 11]), (3, [0, 1, 10, 11])], lx := [(4, [0, 1, 11]), (5, [0, 1, 10, 11]), (8, [0, 1, 10, 11]), (9, [0, 1, 10, 11]), (6, [0, 1, 10, 11]), (7, [0, 1, 10, 11]), (2, [0, 1, 10, 11]), (3, [0, 1, 10, 11]), (0, [0, 1, 10, 11]), (1, [0, 1, 10, 11])], bef := [(1, [0, 0, 0, 0, 0, 0, 48, 112, 0, 0, 768, 1792, 4083, 8179, 16383, 32767]), (3, [0, 0, 3, 7, 15, 15, 63, 127, 15, 15, 783, 1807, 4095, 8191]), (5, [0, 0, 3, 7, 15, 15, 63, 127, 15, 15, 783, 1807, 4095, 8191, 16383]), (8, [0, 0, 0, 0, 0, 0, 48, 112, 0, 0, 768, 1792, 4083, 8179, 16383, 32767]), (10, [0, 0, 0, 0, 0, 0, 48, 112, 0, 0, 768, 1792, 4083, 8179, 16383, 32767]), (13, [0, 0, 3, 7, 15, 15, 63, 127, 15, 15, 783, 1807, 4095, 8191]), (15, [0, 0, 3, 7, 15, 15, 63, 127, 15, 15, 783, 1807, 4095, 8191, 16383]), (18, [0, 0, 0, 0, 0, 0, 48, 112, 0, 0, 768, 1792, 4083, 8179, 16383, 32767]), (21, [0, 0, 0, 0, 0, 0, 48, 112, 0, 0, 768, 1792, 4083, 8179, 16383, 32767])], pol := .share, code := Try.f74.body }
/-- math/bits.Len32 -/
noncomputable def fx75 : FX := { nt := 19, res := [.tmp 2], ll := [], lx := [], bef := [], pol := .pure, code := Try.f75.body }
/-- math/bits.Len64 -/
noncomputable def fx76 : FX := { nt := 25, res := [.tmp 2], ll := [], lx := [], bef := [], pol := .pure, code := Try.f76.body }
/-- slices.Reverse[[]pagemend/api.Grant,pagemend/api.Grant] -/
noncomputable def fx77 : FX := { nt := 28, res := [], ll := [(1, [0, 2, 3])], lx := [(0, []), (1, [0, 2, 3])], bef := [(3, [0, 0, 0, 0, 0, 0, 48, 112, 0, 0, 768, 1792, 4083, 8179, 16383, 32767])], pol := .share, code := Try.f77.body }
/-- slices.siftDownOrdered[int] -/
noncomputable def fx78 : FX := { nt := 76, res := [], ll := [(1, [0, 2, 3, 8])], lx := [(0, []), (1, [0, 2, 3, 8])], bef := [(3, [0, 1, 0, 7, 15, 31, 31, 31, 223, 511, 1023, 31, 31, 31, 12319, 28703, 63519, 129055, 262143, 524287]), (5, [0, 0, 0, 6, 15, 31, 0, 0, 0, 384, 960, 1984, 4095, 8191]), (6, [0, 0, 0, 6, 0, 0, 0, 96, 0, 0, 0, 1536, 3840, 7936, 0, 0, 0, 98304, 245760, 507904, 1048335, 2096911, 4194303, 8388607])], pol := .share, code := Try.f78.body }
/-- slices.nextPowerOfTwo -/
noncomputable def fx79 : FX := { nt := 7, res := [.tmp 2], ll := [], lx := [], bef := [], pol := .share, code := Try.f79.body }
/-- (*slices.xorshift).Next -/
noncomputable def fx80 : FX := { nt := 33, res := [.tmp 2], ll := [], lx := [], bef := [(1, [0, 1, 3, 0, 8, 24, 56, 127, 255, 511]), (2, [0, 1, 3, 0, 8, 24, 56, 127, 255, 511]), (3, [0, 1, 3, 0, 8, 24, 56, 127, 255, 511])], pol := .share, code := Try.f80.body }
/-- slices.medianAdjacentOrdered[int] -/
noncomputable def fx81 : FX := { nt := 15, res := [.tmp 6], ll := [], lx := [], bef := [], pol := .share, code := Try.f81.body }
/-- slices.medianOrdered[int] -/
noncomputable def fx82 : FX := { nt := 36, res := [.tmp 10], ll := [], lx := [], bef := [], pol := .share, code := Try.f82.body }
/-- slices.order2Ordered[int] -/
noncomputable def fx83 : FX := { nt := 28, res := [.tmp 8, .tmp 9], ll := [], lx := [], bef := [(1, [0, 0, 3, 7, 0, 0, 48, 112, 255])], pol := .share, code := Try.f83.body }
noncomputable def funcs : FT := (.node 42 (.node 22 (.node 12 (.node 7 (.node 4 (.node 3 (.leaf 2 fx2) (.leaf 3 fx3)) (.node 5 (.leaf 4 fx4) (.node 6 (.leaf 5 fx5) (.leaf 6 fx6)))) (.node 9 (.node 8 (.leaf 7 fx7) (.leaf 8 fx8)) (.node 10 (.leaf 9 fx9) (.node 11 (.leaf 10 fx10) (.leaf 11 fx11))))) (.node 17 (.node 14 (.node 13 (.leaf 12 fx12) (.leaf 13 fx13)) (.node 15 (.leaf 14 fx14) (.node 16 (.leaf 15 fx15) (.leaf 16 fx16)))) (.node 19 (.node 18 (.leaf 17 fx17) (.leaf 18 fx18)) (.node 20 (.leaf 19 fx19) (.node 21 (.leaf 20 fx20) (.leaf 21 fx21)))))) (.node 32 (.node 27 (.node 24 (.node 23 (.leaf 22 fx22) (.leaf 23 fx23)) (.node 25 (.leaf 24 fx24) (.node 26 (.leaf 25 fx25) (.leaf 26 fx26)))) (.node 29 (.node 28 (.leaf 27 fx27) (.leaf 28 fx28)) (.node 30 (.leaf 29 fx29) (.node 31 (.leaf 30 fx30) (.leaf 31 fx31))))) (.node 37 (.node 34 (.node 33 (.leaf 32 fx32) (.leaf 33 fx33)) (.node 35 (.leaf 34 fx34) (.node 36 (.leaf 35 fx35) (.leaf 36 fx36)))) (.node 39 (.node 38 (.leaf 37 fx37) (.leaf 38 fx38)) (.node 40 (.leaf 39 fx39) (.node 41 (.leaf 40 fx40) (.leaf 41 fx41))))))) (.node 63 (.node 52 (.node 47 (.node 44 (.node 43 (.leaf 42 fx42) (.leaf 43 fx43)) (.node 45 (.leaf 44 fx44) (.node 46 (.leaf 45 fx45) (.leaf 46 fx46)))) (.node 49 (.node 48 (.leaf 47 fx47) (.leaf 48 fx48)) (.node 50 (.leaf 49 fx49) (.node 51 (.leaf 50 fx50) (.leaf 51 fx51))))) (.node 58 (.node 55 (.node 53 (.leaf 52 fx52) (.leaf 53 fx53)) (.node 56 (.leaf 55 fx55) (.node 57 (.leaf 56 fx56) (.leaf 57 fx57)))) (.node 60 (.node 59 (.leaf 58 fx58) (.leaf 59 fx59)) (.node 61 (.leaf 60 fx60) (.node 62 (.leaf 61 fx61) (.leaf 62 fx62)))))) (.node 73 (.node 68 (.node 65 (.node 64 (.leaf 63 fx63) (.leaf 64 fx64)) (.node 66 (.leaf 65 fx65) (.node 67 (.leaf 66 fx66) (.leaf 67 fx67)))) (.node 70 (.node 69 (.leaf 68 fx68) (.leaf 69 fx69)) (.node 71 (.leaf 70 fx70) (.node 72 (.leaf 71 fx71) (.leaf 72 fx72))))) (.node 78 (.node 75 (.node 74 (.leaf 73 fx73) (.leaf 74 fx74)) (.node 76 (.leaf 75 fx75) (.node 77 (.leaf 76 fx76) (.leaf 77 fx77)))) (.node 81 (.node 79 (.leaf 78 fx78) (.node 80 (.leaf 79 fx79) (.leaf 80 fx80))) (.node 82 (.leaf 81 fx81) (.node 83 (.leaf 82 fx82) (.leaf 83 fx83))))))))
theorem types_ok : (List.range ntypes).map types.get = (List.range ntypes).map (tiOf Try.prog) := by kernel_rfl
theorem T_eq : T = tiOf Try.prog := table_eq types_ok
theorem sr_eq : sr = slRes Try.prog := sr_table (by kernel_rfl) (by kernel_rfl)
theorem names : namesOk Try.prog = true := by kernel_rfl
theorem mixed : Try.prog.follows .mixedOrders = true := by kernel_rfl
theorem rows : (funcs.rows.all fun p => rowFit Try.prog p.1 p.2) = true := by kernel_rfl
theorem same2 : RowSame Try.prog 2 fx2 := fun fn h => by rw [Try.func2] at h; cases h; exact ⟨rfl, rfl⟩
theorem same3 : RowSame Try.prog 3 fx3 := fun fn h => by rw [Try.func3] at h; cases h; exact ⟨rfl, rfl⟩
theorem same4 : RowSame Try.prog 4 fx4 := fun fn h => by rw [Try.func4] at h; cases h; exact ⟨rfl, rfl⟩
theorem same5 : RowSame Try.prog 5 fx5 := fun fn h => by rw [Try.func5] at h; cases h; exact ⟨rfl, rfl⟩
theorem same6 : RowSame Try.prog 6 fx6 := fun fn h => by rw [Try.func6] at h; cases h; exact ⟨rfl, rfl⟩
theorem same7 : RowSame Try.prog 7 fx7 := fun fn h => by rw [Try.func7] at h; cases h; exact ⟨rfl, rfl⟩
theorem same8 : RowSame Try.prog 8 fx8 := fun fn h => by rw [Try.func8] at h; cases h; exact ⟨rfl, rfl⟩
theorem same9 : RowSame Try.prog 9 fx9 := fun fn h => by rw [Try.func9] at h; cases h; exact ⟨rfl, rfl⟩
theorem same10 : RowSame Try.prog 10 fx10 := fun fn h => by rw [Try.func10] at h; cases h; exact ⟨rfl, rfl⟩
theorem same11 : RowSame Try.prog 11 fx11 := fun fn h => by rw [Try.func11] at h; cases h; exact ⟨rfl, rfl⟩
theorem same12 : RowSame Try.prog 12 fx12 := fun fn h => by rw [Try.func12] at h; cases h; exact ⟨rfl, rfl⟩
theorem same13 : RowSame Try.prog 13 fx13 := fun fn h => by rw [Try.func13] at h; cases h; exact ⟨rfl, rfl⟩
theorem same14 : RowSame Try.prog 14 fx14 := fun fn h => by rw [Try.func14] at h; cases h; exact ⟨rfl, rfl⟩
theorem same15 : RowSame Try.prog 15 fx15 := fun fn h => by rw [Try.func15] at h; cases h; exact ⟨rfl, rfl⟩
theorem same16 : RowSame Try.prog 16 fx16 := fun fn h => by rw [Try.func16] at h; cases h; exact ⟨rfl, rfl⟩
theorem same17 : RowSame Try.prog 17 fx17 := fun fn h => by rw [Try.func17] at h; cases h; exact ⟨rfl, rfl⟩
theorem same18 : RowSame Try.prog 18 fx18 := fun fn h => by rw [Try.func18] at h; cases h; exact ⟨rfl, rfl⟩
theorem same19 : RowSame Try.prog 19 fx19 := fun fn h => by rw [Try.func19] at h; cases h; exact ⟨rfl, rfl⟩
theorem same20 : RowSame Try.prog 20 fx20 := fun fn h => by rw [Try.func20] at h; cases h; exact ⟨rfl, rfl⟩
theorem same21 : RowSame Try.prog 21 fx21 := fun fn h => by rw [Try.func21] at h; cases h; exact ⟨rfl, rfl⟩
theorem same22 : RowSame Try.prog 22 fx22 := fun fn h => by rw [Try.func22] at h; cases h; exact ⟨rfl, rfl⟩
theorem same23 : RowSame Try.prog 23 fx23 := fun fn h => by rw [Try.func23] at h; cases h; exact ⟨rfl, rfl⟩
theorem same24 : RowSame Try.prog 24 fx24 := fun fn h => by rw [Try.func24] at h; cases h; exact ⟨rfl, rfl⟩
theorem same25 : RowSame Try.prog 25 fx25 := fun fn h => by rw [Try.func25] at h; cases h; exact ⟨rfl, rfl⟩
theorem same26 : RowSame Try.prog 26 fx26 := fun fn h => by rw [Try.func26] at h; cases h; exact ⟨rfl, rfl⟩
theorem same27 : RowSame Try.prog 27 fx27 := fun fn h => by rw [Try.func27] at h; cases h; exact ⟨rfl, rfl⟩
theorem same28 : RowSame Try.prog 28 fx28 := fun fn h => by rw [Try.func28] at h; cases h; exact ⟨rfl, rfl⟩
theorem same29 : RowSame Try.prog 29 fx29 := fun fn h => by rw [Try.func29] at h; cases h; exact ⟨rfl, rfl⟩
theorem same30 : RowSame Try.prog 30 fx30 := fun fn h => by rw [Try.func30] at h; cases h; exact ⟨rfl, rfl⟩
theorem same31 : RowSame Try.prog 31 fx31 := fun fn h => by rw [Try.func31] at h; cases h; exact ⟨rfl, rfl⟩
theorem same32 : RowSame Try.prog 32 fx32 := fun fn h => by rw [Try.func32] at h; cases h; exact ⟨rfl, rfl⟩
theorem same33 : RowSame Try.prog 33 fx33 := fun fn h => by rw [Try.func33] at h; cases h; exact ⟨rfl, rfl⟩
theorem same34 : RowSame Try.prog 34 fx34 := fun fn h => by rw [Try.func34] at h; cases h; exact ⟨rfl, rfl⟩
theorem same35 : RowSame Try.prog 35 fx35 := fun fn h => by rw [Try.func35] at h; cases h; exact ⟨rfl, rfl⟩
theorem same36 : RowSame Try.prog 36 fx36 := fun fn h => by rw [Try.func36] at h; cases h; exact ⟨rfl, rfl⟩
theorem same37 : RowSame Try.prog 37 fx37 := fun fn h => by rw [Try.func37] at h; cases h; exact ⟨rfl, rfl⟩
theorem same38 : RowSame Try.prog 38 fx38 := fun fn h => by rw [Try.func38] at h; cases h; exact ⟨rfl, rfl⟩
theorem same39 : RowSame Try.prog 39 fx39 := fun fn h => by rw [Try.func39] at h; cases h; exact ⟨rfl, rfl⟩
theorem same40 : RowSame Try.prog 40 fx40 := fun fn h => by rw [Try.func40] at h; cases h; exact ⟨rfl, rfl⟩
theorem same41 : RowSame Try.prog 41 fx41 := fun fn h => by rw [Try.func41] at h; cases h; exact ⟨rfl, rfl⟩
theorem same42 : RowSame Try.prog 42 fx42 := fun fn h => by rw [Try.func42] at h; cases h; exact ⟨rfl, rfl⟩
theorem same43 : RowSame Try.prog 43 fx43 := fun fn h => by rw [Try.func43] at h; cases h; exact ⟨rfl, rfl⟩
theorem same44 : RowSame Try.prog 44 fx44 := fun fn h => by rw [Try.func44] at h; cases h; exact ⟨rfl, rfl⟩
theorem same45 : RowSame Try.prog 45 fx45 := fun fn h => by rw [Try.func45] at h; cases h; exact ⟨rfl, rfl⟩
theorem same46 : RowSame Try.prog 46 fx46 := fun fn h => by rw [Try.func46] at h; cases h; exact ⟨rfl, rfl⟩
theorem same47 : RowSame Try.prog 47 fx47 := fun fn h => by rw [Try.func47] at h; cases h; exact ⟨rfl, rfl⟩
theorem same48 : RowSame Try.prog 48 fx48 := fun fn h => by rw [Try.func48] at h; cases h; exact ⟨rfl, rfl⟩
theorem same49 : RowSame Try.prog 49 fx49 := fun fn h => by rw [Try.func49] at h; cases h; exact ⟨rfl, rfl⟩
theorem same50 : RowSame Try.prog 50 fx50 := fun fn h => by rw [Try.func50] at h; cases h; exact ⟨rfl, rfl⟩
theorem same51 : RowSame Try.prog 51 fx51 := fun fn h => by rw [Try.func51] at h; cases h; exact ⟨rfl, rfl⟩
theorem same52 : RowSame Try.prog 52 fx52 := fun fn h => by rw [Try.func52] at h; cases h; exact ⟨rfl, rfl⟩
theorem same53 : RowSame Try.prog 53 fx53 := fun fn h => by rw [Try.func53] at h; cases h; exact ⟨rfl, rfl⟩
theorem same55 : RowSame Try.prog 55 fx55 := fun fn h => by rw [Try.func55] at h; cases h; exact ⟨rfl, rfl⟩
theorem same56 : RowSame Try.prog 56 fx56 := fun fn h => by rw [Try.func56] at h; cases h; exact ⟨rfl, rfl⟩
theorem same57 : RowSame Try.prog 57 fx57 := fun fn h => by rw [Try.func57] at h; cases h; exact ⟨rfl, rfl⟩
theorem same58 : RowSame Try.prog 58 fx58 := fun fn h => by rw [Try.func58] at h; cases h; exact ⟨rfl, rfl⟩
theorem same59 : RowSame Try.prog 59 fx59 := fun fn h => by rw [Try.func59] at h; cases h; exact ⟨rfl, rfl⟩
theorem same60 : RowSame Try.prog 60 fx60 := fun fn h => by rw [Try.func60] at h; cases h; exact ⟨rfl, rfl⟩
theorem same61 : RowSame Try.prog 61 fx61 := fun fn h => by rw [Try.func61] at h; cases h; exact ⟨rfl, rfl⟩
theorem same62 : RowSame Try.prog 62 fx62 := fun fn h => by rw [Try.func62] at h; cases h; exact ⟨rfl, rfl⟩
theorem same63 : RowSame Try.prog 63 fx63 := fun fn h => by rw [Try.func63] at h; cases h; exact ⟨rfl, rfl⟩
theorem same64 : RowSame Try.prog 64 fx64 := fun fn h => by rw [Try.func64] at h; cases h; exact ⟨rfl, rfl⟩
theorem same65 : RowSame Try.prog 65 fx65 := fun fn h => by rw [Try.func65] at h; cases h; exact ⟨rfl, rfl⟩
theorem same66 : RowSame Try.prog 66 fx66 := fun fn h => by rw [Try.func66] at h; cases h; exact ⟨rfl, rfl⟩
theorem same67 : RowSame Try.prog 67 fx67 := fun fn h => by rw [Try.func67] at h; cases h; exact ⟨rfl, rfl⟩
theorem same68 : RowSame Try.prog 68 fx68 := fun fn h => by rw [Try.func68] at h; cases h; exact ⟨rfl, rfl⟩
theorem same69 : RowSame Try.prog 69 fx69 := fun fn h => by rw [Try.func69] at h; cases h; exact ⟨rfl, rfl⟩
theorem same70 : RowSame Try.prog 70 fx70 := fun fn h => by rw [Try.func70] at h; cases h; exact ⟨rfl, rfl⟩
theorem same71 : RowSame Try.prog 71 fx71 := fun fn h => by rw [Try.func71] at h; cases h; exact ⟨rfl, rfl⟩
theorem same72 : RowSame Try.prog 72 fx72 := fun fn h => by rw [Try.func72] at h; cases h; exact ⟨rfl, rfl⟩
theorem same73 : RowSame Try.prog 73 fx73 := fun fn h => by rw [Try.func73] at h; cases h; exact ⟨rfl, rfl⟩
theorem same74 : RowSame Try.prog 74 fx74 := fun fn h => by rw [Try.func74] at h; cases h; exact ⟨rfl, rfl⟩
theorem same75 : RowSame Try.prog 75 fx75 := fun fn h => by rw [Try.func75] at h; cases h; exact ⟨rfl, rfl⟩
theorem same76 : RowSame Try.prog 76 fx76 := fun fn h => by rw [Try.func76] at h; cases h; exact ⟨rfl, rfl⟩
theorem same77 : RowSame Try.prog 77 fx77 := fun fn h => by rw [Try.func77] at h; cases h; exact ⟨rfl, rfl⟩
theorem same78 : RowSame Try.prog 78 fx78 := fun fn h => by rw [Try.func78] at h; cases h; exact ⟨rfl, rfl⟩
theorem same79 : RowSame Try.prog 79 fx79 := fun fn h => by rw [Try.func79] at h; cases h; exact ⟨rfl, rfl⟩
theorem same80 : RowSame Try.prog 80 fx80 := fun fn h => by rw [Try.func80] at h; cases h; exact ⟨rfl, rfl⟩
theorem same81 : RowSame Try.prog 81 fx81 := fun fn h => by rw [Try.func81] at h; cases h; exact ⟨rfl, rfl⟩
theorem same82 : RowSame Try.prog 82 fx82 := fun fn h => by rw [Try.func82] at h; cases h; exact ⟨rfl, rfl⟩
theorem same83 : RowSame Try.prog 83 fx83 := fun fn h => by rw [Try.func83] at h; cases h; exact ⟨rfl, rfl⟩
theorem same : ∀ p ∈ funcs.rows, RowSame Try.prog p.1 p.2 := by
  have e : funcs.rows = [(2, fx2), (3, fx3), (4, fx4), (5, fx5), (6, fx6), (7, fx7), (8, fx8), (9, fx9), (10, fx10), (11, fx11), (12, fx12), (13, fx13), (14, fx14), (15, fx15), (16, fx16), (17, fx17), (18, fx18), (19, fx19), (20, fx20), (21, fx21), (22, fx22), (23, fx23), (24, fx24), (25, fx25), (26, fx26), (27, fx27), (28, fx28), (29, fx29), (30, fx30), (31, fx31), (32, fx32), (33, fx33), (34, fx34), (35, fx35), (36, fx36), (37, fx37), (38, fx38), (39, fx39), (40, fx40), (41, fx41), (42, fx42), (43, fx43), (44, fx44), (45, fx45), (46, fx46), (47, fx47), (48, fx48), (49, fx49), (50, fx50), (51, fx51), (52, fx52), (53, fx53), (55, fx55), (56, fx56), (57, fx57), (58, fx58), (59, fx59), (60, fx60), (61, fx61), (62, fx62), (63, fx63), (64, fx64), (65, fx65), (66, fx66), (67, fx67), (68, fx68), (69, fx69), (70, fx70), (71, fx71), (72, fx72), (73, fx73), (74, fx74), (75, fx75), (76, fx76), (77, fx77), (78, fx78), (79, fx79), (80, fx80), (81, fx81), (82, fx82), (83, fx83)] := rfl
  rw [e]
  simp only [List.mem_cons, List.mem_nil_iff, or_false]
  rintro p (rfl | rfl | rfl | rfl | rfl | rfl | rfl | rfl | rfl | rfl | rfl | rfl | rfl | rfl | rfl | rfl | rfl | rfl | rfl | rfl | rfl | rfl | rfl | rfl | rfl | rfl | rfl | rfl | rfl | rfl | rfl | rfl | rfl | rfl | rfl | rfl | rfl | rfl | rfl | rfl | rfl | rfl | rfl | rfl | rfl | rfl | rfl | rfl | rfl | rfl | rfl | rfl | rfl | rfl | rfl | rfl | rfl | rfl | rfl | rfl | rfl | rfl | rfl | rfl | rfl | rfl | rfl | rfl | rfl | rfl | rfl | rfl | rfl | rfl | rfl | rfl | rfl | rfl | rfl | rfl | rfl)
  · exact same2
  · exact same3
  · exact same4
  · exact same5
  · exact same6
  · exact same7
  · exact same8
  · exact same9
  · exact same10
  · exact same11
  · exact same12
  · exact same13
  · exact same14
  · exact same15
  · exact same16
  · exact same17
  · exact same18
  · exact same19
  · exact same20
  · exact same21
  · exact same22
  · exact same23
  · exact same24
  · exact same25
  · exact same26
  · exact same27
  · exact same28
  · exact same29
  · exact same30
  · exact same31
  · exact same32
  · exact same33
  · exact same34
  · exact same35
  · exact same36
  · exact same37
  · exact same38
  · exact same39
  · exact same40
  · exact same41
  · exact same42
  · exact same43
  · exact same44
  · exact same45
  · exact same46
  · exact same47
  · exact same48
  · exact same49
  · exact same50
  · exact same51
  · exact same52
  · exact same53
  · exact same55
  · exact same56
  · exact same57
  · exact same58
  · exact same59
  · exact same60
  · exact same61
  · exact same62
  · exact same63
  · exact same64
  · exact same65
  · exact same66
  · exact same67
  · exact same68
  · exact same69
  · exact same70
  · exact same71
  · exact same72
  · exact same73
  · exact same74
  · exact same75
  · exact same76
  · exact same77
  · exact same78
  · exact same79
  · exact same80
  · exact same81
  · exact same82
  · exact same83
theorem tab : TabOK Try.prog T sr funcs := ⟨T_eq, sr_eq, names, mixed, fun p hp => List.all_eq_true.mp rows p hp, same⟩
end Go.Ev.Tab

/- Contracts of the table of locks and of waits: first part. Own work. -/
set_option maxRecDepth 100000
set_option linter.unusedVariables false
namespace Go.Ev.Tab
open Go Go.Ev.X Go.Proofs

noncomputable abbrev rc (H : List (Nat × (List AV → Mem → AK → R))) (L : List (Nat × (List AV → Mem → XK → R))) (x : FX) : RC := rcOf T sr (X.polOf funcs) (lookP H) (lookL L) x 0 false

/-- A function, its callees and loops by contract. -/
theorem fn_ok {f : Nat} {x : FX} {H : List (Nat × (List AV → Mem → AK → R))} {L : List (Nat × (List AV → Mem → XK → R))} (hx : funcs.get f = some x) (hc : x.code = some (codeOf x)) (hH : AllOK Try.prog H) (hd : nodupB ((loopsOf (codeOf x)).map loopKey) = true)
    (hL : AllL (rc H L x) (codeOf x) L) : COK Try.prog f (body (rc H L x) (codeOf x)) :=
  ⟨func_ok tab (lookP_ok hH.mem) hx hc (only_list rfl hd hL.mem)⟩

abbrev G : Ty := .pair (.int .i64) (.pair (.pair (.int .i64) (.int .i64)) (.int .i64))
abbrev I : Ty := .int .i64
abbrev GG := Int × (Int × Int) × Int

theorem kbool {k : AK} {m : Mem} {x y : Bool} (h : x = y) : k (.one (.bool x)) m = k (.one (.bool y)) m := by rw [h]
theorem kint {k : AK} {m : Mem} {x y : Int} (h : x = y) : k (.one (.int .i64 x)) m = k (.one (.int .i64 y)) m := by rw [h]
theorem beq_pair (a b : Ty) (x y : (Ty.pair a b).El) : (Ty.pair a b).beq x y = (a.beq x.1 y.1 && b.beq x.2 y.2) := rfl
theorem beq_int (κ : IntKind) (x y : Int) : (Ty.int κ).beq x y = (x == y) := rfl

/-! ### conflict -/
def conflict (a b : GG) : Bool := (a.1 != b.1) && (a.2.1.1 == b.2.1.1 && a.2.1.2 == b.2.1.2) && (a.2.2 == 2 || b.2.2 == 2)
def pConflict := ansP [G, G] fun x => .one (.bool (conflict x.1 x.2.1))

theorem conflict_ok : COK Try.prog 46 pConflict := by
  refine ans_cok (fn_ok (x := fx46) (H := []) (L := []) rfl rfl trivial (by kernel_rfl) trivial) ?_
  rintro ⟨a, b, u⟩ k hb
  clear hb
  conv => lhs; whnf
  repeat' (split <;> (conv => lhs; whnf))
  all_goals exact kbool (by rw [Bool.eq_iff_iff]; simp_all [conflict, beq_pair, beq_int])

theorem lconflict_ok : COK Try.prog 41 pConflict := by
  refine ans_cok (fn_ok (x := fx41) (H := []) (L := []) rfl rfl trivial (by kernel_rfl) trivial) ?_
  rintro ⟨a, b, u⟩ k hb
  clear hb
  conv => lhs; whnf
  repeat' (split <;> (conv => lhs; whnf))
  all_goals exact kbool (by rw [Bool.eq_iff_iff]; simp_all [conflict, beq_pair, beq_int])

/-! ### comparing -/
def pFalse (ts : List Ty) := ansP ts fun x => .one (.bool false)
theorem isNaN_ok : COK Try.prog 65 (pFalse [I]) := by
  refine ans_cok (fn_ok (x := fx65) (H := []) (L := []) rfl rfl trivial (by kernel_rfl) trivial) ?_
  rintro ⟨a, u⟩ k hb
  conv => lhs; whnf
  exact kbool (by simp)

def cmpI (a b : Int) : Int := if a < b then -1 else if a > b then 1 else 0
def pCompare := ansP [I, I] fun x => .one (.int .i64 (cmpI x.1 x.2.1))
theorem compare_ok : COK Try.prog 59 pCompare := by
  refine ans_cok (fn_ok (x := fx59) (H := [(65, pFalse [I])]) (L := []) rfl rfl ⟨isNaN_ok, trivial⟩ (by kernel_rfl) trivial) ?_
  rintro ⟨a, b, u⟩ k hb
  clear hb
  conv => lhs; whnf
  repeat' (split <;> (conv => lhs; whnf))
  all_goals exact kint (by simp_all [cmpI]; try omega)

/-! ### a grant's validity -/
def valid (g : GG) : Bool := decide (1 ≤ g.1) && decide (g.1 ≤ 1073741824) && decide (0 ≤ g.2.1.1) && decide (g.2.1.1 < 64) && decide (0 ≤ g.2.1.2) && decide (g.2.1.2 < 16) && (g.2.2 == 1 || g.2.2 == 2)
def pValid := ansP [G] fun x => .one (.bool (valid x.1))
theorem valid_ok : COK Try.prog 29 pValid := by
  refine ans_cok (fn_ok (x := fx29) (H := []) (L := []) rfl rfl trivial (by kernel_rfl) trivial) ?_
  rintro ⟨a, u⟩ k hb
  clear hb
  obtain ⟨tx, ⟨pg, sl⟩, md⟩ : Int × (Int × Int) × Int := a
  conv => lhs; whnf
  repeat' (split <;> (conv => lhs; whnf))
  all_goals exact kbool (by rw [Bool.eq_iff_iff]; simp_all [valid] <;> (intros; omega))

/-! ### the first number that is not zero -/
def orI : List Int → Int
  | [] => 0
  | x :: r => if x = 0 then orI r else x
def pOr := ansP [.sl I] fun x => .one (.int .i64 (orI x.1))

noncomputable def orL := loopP (α := Nat × List Int) (fun x => [.one (.int .i64 0), .one (.sl I x.2 none none), .one (.int .i64 x.2.length), .one (.int .i64 x.1)]) (fun x => [])
  (fun x => x.2.length ≤ big) (fun x K => if orI (x.2.drop x.1) = 0 then K.exit 0 [.one (.int .i64 0)] [] else K.ret [.one (.int .i64 (orI (x.2.drop x.1)))] [])
theorem orL_inj (x y : Nat × List Int) (h : [AV.one (.int .i64 0), .one (.sl I x.2 none none), .one (.int .i64 x.2.length), .one (.int .i64 x.1)] = [AV.one (.int .i64 0), .one (.sl I y.2 none none), .one (.int .i64 y.2.length), .one (.int .i64 y.1)]) : x = y := by
  simp only [List.cons.injEq] at h
  exact Prod.ext (Int.ofNat.inj (av_int_inj h.2.2.2.1)) (av_sl_inj h.2.1)
theorem orL_ok : LoopOK (rc [] [(3, orL)] fx58) (loopB 3 (codeOf fx58)) orL := by
  refine loopP_ok (fun x y h _ => orL_inj x y h) (fun x => x.2.length - x.1) ?_
  rintro ⟨i, xs⟩ K r N hb hN hf
  dsimp only at hb hN hf
  rcases Nat.lt_or_ge i xs.length with h | h
  · have e1 := lt_t h
    have e2 := ix_t (a := I.width) (b := 1) rfl h
    rw [drop_nth xs i h, orI] at hf
    conv => lhs; whnf
    rw [e1]
    conv => lhs; whnf
    rw [e2]
    conv => lhs; whnf
    rw [getD_nth xs i _ h]
    split
    · rename_i h0
      conv => lhs; whnf
      rw [← hf]
      simp only [bne_iff_ne, ne_eq] at h0
      simp [h0]
    · rename_i h0
      conv => lhs; whnf
      simp only [bne_eq_false_iff_eq] at h0
      rw [succ_w (big_lt h hb)]
      refine (hN (i + 1, xs) hb (by simp only; omega)).trans ?_
      rw [← hf]
      simp [h0]
  · rw [List.drop_eq_nil_of_le h, orI, if_pos rfl] at hf
    conv => lhs; whnf
    rw [lt_f h]
    conv => lhs; whnf
    exact hf
theorem or_ok : COK Try.prog 58 pOr := by
  refine ans_cok (fn_ok (x := fx58) (H := []) (L := [(3, orL)]) rfl rfl trivial (by kernel_rfl) ⟨orL_ok, trivial⟩) ?_
  rintro ⟨xs, u⟩ k hb
  obtain ⟨hb, _⟩ := hb
  dsimp only at hb
  conv => lhs; whnf
  refine (loopP_eq (fun x y h _ => orL_inj x y h) (x := (0, xs)) hb.1 _).trans ?_
  split
  · conv => lhs; whnf
    exact kint (by simp_all)
  · conv => lhs; whnf
    exact kint rfl

end Go.Ev.Tab

/- Contracts by cases that only the world knows: nil or not, room or not; a library's function without a body. Own work. -/
set_option linter.unusedSimpArgs false
set_option linter.unusedVariables false
namespace Go.Ev
open Go

section
variable {P : Program} {ok : Ok} {μ : Mu} {m : Mem} {w : World}

theorem nil_cases {τ : Ty} {xs : List τ.El} {lim : Option Nat} {cs : List Value} (h : RepL ok μ m w (.sl τ xs none lim) cs) :
    (xs = [] ∧ RepL ok μ m w (.sl τ [] (some true) (some 0)) cs) ∨ RepL ok μ m w (.sl τ xs (some false) lim) cs := by
  obtain ⟨hT, a, n, cap, rfl, _, _, h3⟩ := h
  cases a with
  | none =>
    obtain ⟨a', cap', e, h1, h2, h4⟩ := hT
    simp only [List.cons.injEq, Value.slice.injEq, and_true] at e
    obtain ⟨rfl, rfl, rfl⟩ := e
    have hc := h2 rfl
    subst hc
    have hx : xs = [] := List.length_eq_zero_iff.mp (by omega)
    subst hx
    exact .inl ⟨rfl, ⟨none, 0, rfl, ⟨by simp, by simp⟩, fun _ => rfl, by simp⟩, none, _, 0, rfl, fun _ => rfl, by simp, by simp⟩
  | some ad => exact .inr ⟨hT, some ad, n, cap, rfl, by simp, by simp, h3⟩

/-- A function of one list, nil or not. -/
theorem CallOK.nil1 {f : FuncId} {p q : List AV → Mem → AK → R} (hp : CallOK P f p)
    (h : ∀ args m k r, q args m k = some r → ∃ τ xs nl lim, args = [.one (.sl τ xs nl lim)] ∧ p [.one (.sl τ xs (some false) none)] m k = some r ∧ (xs = [] → p [.one (.sl τ [] (some true) (some 0))] m k = some r)) : CallOK P f q := by
  intro ok μ m w args vs k r hS hx hq
  obtain ⟨τ, xs, nl, lim, rfl, h1, h2⟩ := h args m k r hq
  obtain ⟨v, s, e, h3, h4⟩ := hx
  have h3' : RepL ok μ m w (.sl τ xs none none) [v] := by
    obtain ⟨hT, a, n, cap, e, _, _, _⟩ := h3
    exact ⟨hT, a, n, cap, e, by simp, by simp, by simp⟩
  rcases nil_cases h3' with ⟨hx, h5⟩ | h5
  · exact hp (args := [.one (.sl τ [] (some true) (some 0))]) hS ⟨v, s, e, h5, h4⟩ (h2 hx)
  · exact hp (args := [.one (.sl τ xs (some false) none)]) hS ⟨v, s, e, h5, h4⟩ h1

/-- The room behind a list, as far as one element. -/
theorem open_move {id n : Nat} {τ : Ty} {xs : List τ.El} {cs : List Value} (hS : Sim ok μ m w) (hid : m.get id = some (.arr τ xs false)) (hn : m.get n = none) (hb : xs.length < big) (h : RepL ok μ m w (.ref id (.tail 0) none) cs) :
    ∃ zs c μ', ((zs = [] ∧ c = xs.length) ∨ (∃ z, zs = [z] ∧ xs.length < c)) ∧ c < 2 ^ 64 * 2 ^ 64 * (c + 1) ∧ Move ok μ m w ok μ' ((m.set id .dead).set n (.arr τ (xs ++ zs) false)) w ∧ RepL ok μ' ((m.set id .dead).set n (.arr τ (xs ++ zs) false)) w (.ref n (.sub 0 xs.length) (some c)) cs := by
  obtain ⟨u, rfl, hne, h⟩ := h
  simp only [hid, Option.bind_some, Obj.row] at h
  obtain ⟨a, cap, rfl, h1, h2, h3, h4, h5⟩ := h
  have hlen0 : (View.tail 0).lenN xs.length = xs.length := by simp [View.lenN]
  rw [hlen0] at h1 h2
  obtain ⟨⟨hw, hbig⟩, hO⟩ := hS.objs id _ hid
  have hnid : n ≠ id := fun e => by rw [e, hid] at hn; cases hn
  rcases h5 with ⟨B, base, sz, e1, rfl, e2⟩ | ⟨e1, e2⟩
  · rcases hO with ⟨e, _⟩ | ⟨B', base', sz', c, E, fz, f1, f2, f3, f4, f5, f6, f7, f8⟩
    · rw [e] at e1; simp at e1
    · rw [f1] at e1
      simp only [Option.some.injEq, Prod.mk.injEq] at e1
      obtain ⟨rfl, rfl, rfl⟩ := e1
      obtain ⟨ys, g1, g2⟩ := f8
      have e2' : base' + cap * τ.width ≤ sz' := by simpa [View.off] using e2
      -- how much is opened
      obtain ⟨zs, hzs, hzl, hzp⟩ : ∃ zs : List τ.El, ((zs = [] ∧ cap = xs.length) ∨ (∃ z, zs = [z] ∧ xs.length < cap)) ∧ zs.length ≤ 1 ∧ ∃ r, ys = zs ++ r := by
        rcases Nat.lt_or_ge xs.length cap with hlt | hge
        · cases ys with
          | nil =>
            have : xs.length * τ.width + τ.width ≤ cap * τ.width := by rw [← Nat.succ_mul]; exact Nat.mul_le_mul_right _ hlt
            simp at g1; omega
          | cons z r => exact ⟨[z], .inr ⟨z, rfl, hlt⟩, by simp, r, rfl⟩
        · exact ⟨[], .inl ⟨rfl, by omega⟩, by simp, ys, rfl⟩
      obtain ⟨r, rfl⟩ := hzp
      have hrow : RowAt ok w τ (xs ++ zs ++ r) c base' := by
        rw [rowAt_iff] at f6 g2 ⊢
        intro i x hx
        rw [List.append_assoc] at hx
        rcases Nat.lt_or_ge i xs.length with hi | hi
        · rw [List.getElem?_append_left hi] at hx
          exact f6 i x hx
        · rw [List.getElem?_append_right hi] at hx
          obtain ⟨cs, k1, k2⟩ := g2 _ x hx
          refine ⟨cs, k1, fun j u hj => ?_⟩
          rw [← k2 j u hj]
          congr 1
          have := Nat.mul_le_mul_right τ.width hi
          rw [Nat.sub_mul]; omega
      have hfirst : RowAt ok w τ (xs ++ zs) c base' := by
        rw [rowAt_iff] at hrow ⊢
        intro i x hx
        have hi : i < (xs ++ zs).length := (List.getElem?_eq_some_iff.mp hx).1
        exact hrow i x (by rw [List.getElem?_append_left hi]; exact hx)
      have hspare : Spare ok w τ c (base' + (xs ++ zs).length * τ.width) := by
        refine ⟨r, ?_, ?_⟩
        · simp only [List.length_append, Nat.add_mul] at g1 ⊢; omega
        · have := hrow.drop (xs ++ zs).length
          rw [List.drop_left' rfl] at this
          exact this
      have hsz : base' + (xs ++ zs).length * τ.width ≤ sz' := by
        obtain ⟨r', k1, _⟩ := hspare
        omega
      have hmv : Move ok μ m w ok (μ.put n (some (B', base', sz'))) ((m.set id .dead).set n (.arr τ (xs ++ zs) false)) w :=
        move_take hS hid rfl ⟨base', sz', f1⟩ hn rfl (fun _ _ => rfl) (fun _ _ => rfl) ⟨⟨hw, by simp only [List.length_append]; omega⟩, .inr ⟨B', base', sz', c, E, fz, Mu.put_self _ _ _, f2, f3, f4, hsz, hfirst, fun q hq => (by have := (f7 q hq).1; cases this), hspare⟩⟩
      refine ⟨zs, cap, _, hzs, by rw [Nat.mul_add]; omega, hmv, _, rfl, by rw [Mu.put_self]; simp, ?_⟩
      simp only [Mem.get_set_self, Option.bind_some, Obj.row]
      refine ⟨_, cap, by rw [hlen0]; rfl, by simp [View.off, View.lenN], by simpa [View.lenN] using h2, by simp, by simp, .inl ⟨B', base', sz', Mu.put_self _ _ _, by simp [View.off], by simpa [View.off] using e2'⟩⟩
  · have hx : xs = [] := List.length_eq_zero_iff.mp (by rw [hlen0] at e1; exact e1)
    subst hx
    have hmd := move_dead hS hid
    have hme := move_empty (id := n) hmd.sim (by rw [Mem.get_set_ne _ _ (fun e => hnid e.symm)]; exact hn) hw false
    refine ⟨[], 0, _, .inl ⟨rfl, rfl⟩, by omega, hmd.trans hme, _, rfl, by rw [Mu.put_self]; simp, ?_⟩
    simp only [List.append_nil, Mem.get_set_self, Option.bind_some, Obj.row]
    exact ⟨a, cap, by simp [View.lenN], by simp [View.off, View.lenN], by simp [View.lenN], by simp [e2], by simp, .inr ⟨by simp [View.lenN], e2⟩⟩

/-- A function of a list of the call's own, a number and another list: with the room opened. -/
theorem CallOK.open3 {f : FuncId} {p q : List AV → Mem → AK → R} (hp : CallOK P f p)
    (h : ∀ args m k r, q args m k = some r → ∃ (τ σ : Ty) (xs : List τ.El) (ys : List σ.El) (ro : Bool) (a : AV) (lim : Option Nat), xs.length < big ∧ (a.ids = [] ∧ ∀ (ok : Ok) (μ μ' : Mu) (m m' : Mem) (w : World) v, RepAV ok μ m w a v → RepAV ok μ' m' w a v) ∧
      args = [.one (.ref 0 (.tail 0) none), a, .one (.ref 1 (.tail 0) lim)] ∧ m = [(0, .arr τ xs false), (1, .arr σ ys ro)] ∧
      ∀ zs c, ((zs = [] ∧ c = xs.length) ∨ (∃ z, zs = [z] ∧ xs.length < c)) →
        p [.one (.ref 2 (.sub 0 xs.length) (some c)), a, .one (.ref 1 (.tail 0) lim)] [(0, .dead), (1, .arr σ ys ro), (2, .arr τ (xs ++ zs) false)] (fun v m => k v (m.set 2 .dead)) = some r) : CallOK P f q := by
  intro ok μ m w args vs k r hS hx hq
  obtain ⟨τ, σ, xs, ys, ro, a, lim, hb, ⟨_, ha⟩, rfl, rfl, h⟩ := h args m k r hq
  obtain ⟨v0, s0, e, h0, v1, s1, rfl, h1, v2, s2, rfl, h2, rfl⟩ := hx
  obtain ⟨zs, c, μ', hz, _, hmv, hr⟩ := open_move (id := 0) (n := 2) hS rfl rfl hb h0
  have h2' := RepAV.step' (x := .one (.ref 1 (.tail 0) lim)) hS hmv.step h2
  refine (hp (args := [.one (.ref 2 (.sub 0 xs.length) (some c)), a, .one (.ref 1 (.tail 0) lim)]) hmv.sim ⟨v0, _, e, hr, v1, _, rfl, ha _ _ _ _ _ _ _ h1, v2, _, rfl, h2', rfl⟩ (h zs c hz)).mono fun v w' h => ?_
  obtain ⟨rv, ok2, μ2, m2, k1, k2, k3⟩ := h
  obtain ⟨o, ho, _⟩ := k2.step.shape 2 (.arr τ (xs ++ zs) false) rfl
  have hd := move_dead k2.sim ho
  exact Post.move hmv ⟨rv, ok2, μ2, _, k1, k2.trans hd, RepAV.step' k2.sim hd.step k3⟩

/-! ### slices.overlaps -/
def pOverlap : List AV → Mem → AK → R := fun args m k =>
  match args with
  | [.val (.one (.ref i v _)), .val (.one (.ref j v' _))] =>
    bif Nat.beq i j then none else
    match m.get i, m.get j with
    | some (.arr τ xs _), some (.arr σ ys _) => bif τ.eqb (.int .u8) || σ.eqb (.int .u8) then none else k (.one (.bool false)) m
    | _, _ => none
  | _ => none

theorem sem_pure_bind {α β : Type} (x : α) (f : α → Sem β) : (pure x : Sem α).bind f = f x := rfl
/-- Slices of two blocks, neither of a string's bytes. -/
theorem run_apart (w : World) {tS tR e : TypeId} (ht : P.underlying tS = some (.slice e)) {size : Nat} (hz : ∀ w, (Go.sizeOf e).run P w = .ok size w) {A B oa ob la ca lb cb kA kB : Nat} {tA tB : TypeId} (hne : A ≠ B)
    (hsa : w.shape? A = some (tA, kA)) (hsb : w.shape? B = some (tB, kB)) (hfa : ∀ o, w.frozen? ⟨A, o, none⟩ = false) (hfb : ∀ o, w.frozen? ⟨B, o, none⟩ = false) :
    (Extern.SlicesOverlaps.overlaps #[tS, tS] #[tR] #[.slice (some ⟨A, oa, none⟩) la ca, .slice (some ⟨B, ob, none⟩) lb cb]).run P w = .ok (.bool false) w := by
  conv => lhs; arg 2; whnf
  by_cases h0 : la = 0 ∨ lb = 0 ∨ size = 0
  · simp [Sem.run, Sem.bind, sem_pure_bind, ht, hz, h0]
  · have hnb : (A != B) = true := by simpa using hne
    have hnb' : (A == B) = false := by simpa using hne
    simp [Sem.bind, sem_pure_bind, ht, hz, h0, hnb, hnb', frozen, noView, viewAt, mayBeOne, stringish, shape, Sem.run, hsa, hsb, hfa, hfb]

theorem overlaps_ok {f : FuncId} {fn : Func} {tS tR e : TypeId} {size : Nat} (hf : P.funcs[f]? = some fn) (hname : (fn.name == "runtime.NumGoroutine") = false) (hb : fn.body.isNone = true) (hn : Extern.findNext fn = none)
    (he : Extern.find fn = some (Extern.SlicesOverlaps.overlaps #[tS, tS] #[tR])) (ht : P.underlying tS = some (.slice e)) (hz : ∀ w, (Go.sizeOf e).run P w = .ok size w) : CallOK P f pOverlap := by
  intro ok μ m w args vs k r hS hx hq
  unfold pOverlap at hq
  split at hq
  · rename_i i v l1 j v' l2
    simp only [nbeq] at hq
    by_cases hij : i = j
    · simp [hij] at hq
    · simp only [hij, decide_false, cond_false] at hq
      split at hq
      · rename_i τ xs ro σ ys ro' hi hj
        cases hu : (τ.eqb (.int .u8) || σ.eqb (.int .u8)) with
        | true => rw [hu] at hq; cases hq
        | false =>
          rw [hu, cond_false] at hq
          simp only [Bool.or_eq_false_iff] at hu
          have hτ : τ ≠ .int .u8 := fun e => by rw [e, Ty.eqb_refl] at hu; cases hu.1
          have hσ : σ ≠ .int .u8 := fun e => by rw [e, Ty.eqb_refl] at hu; cases hu.2
          obtain ⟨u0, s0, e0, h0, u1, s1, rfl, h1, rfl⟩ := hx
          have hvs : vs = #[u0, u1] := by
            have := congrArg List.toArray e0
            simpa using this
          subst hvs
          have key : (Extern.SlicesOverlaps.overlaps #[tS, tS] #[tR] #[u0, u1]).run P w = .ok (.bool false) w := by
            obtain ⟨q0, e1, _, r0⟩ := h0
            obtain ⟨q1, e2, _, r1⟩ := h1
            simp only [List.cons.injEq, and_true] at e1 e2
            subst e1 e2
            simp only [hi, Option.bind_some, Obj.row] at r0
            simp only [hj, Option.bind_some, Obj.row] at r1
            obtain ⟨a, ca, rfl, _, _, _, _, p0⟩ := r0
            obtain ⟨b, cb, rfl, _, _, _, _, p1⟩ := r1
            have triv : v.lenN xs.length = 0 ∨ v'.lenN ys.length = 0 → (Extern.SlicesOverlaps.overlaps #[tS, tS] #[tR] #[.slice a (v.lenN xs.length) ca, .slice b (v'.lenN ys.length) cb]).run P w = .ok (.bool false) w := by
              intro h0
              have h0' : v.lenN xs.length = 0 ∨ v'.lenN ys.length = 0 ∨ size = 0 := by omega
              conv => lhs; arg 2; whnf
              cases a <;> cases b <;> simp [Sem.run, Sem.bind, sem_pure_bind, ht, hz, h0']
            rcases p0 with ⟨A, ba, sa, m0, rfl, f0⟩ | ⟨p0, _⟩
            · rcases p1 with ⟨B, bb, sb, m1, rfl, f1⟩ | ⟨p1, _⟩
              · obtain ⟨_, hO⟩ := hS.objs i _ hi
                obtain ⟨_, hO'⟩ := hS.objs j _ hj
                rcases hO with ⟨x, _⟩ | ⟨A', ba', sa', c, E, fz, x1, x2, x3, x4, _⟩
                · rw [m0] at x; simp at x
                · rcases hO' with ⟨y, _⟩ | ⟨B', bb', sb', c', E', fz', y1, y2, y3, y4, _⟩
                  · rw [m1] at y; simp at y
                  · rw [m0] at x1
                    rw [m1] at y1
                    simp only [Option.some.injEq, Prod.mk.injEq] at x1 y1
                    obtain ⟨rfl, rfl, rfl⟩ := x1
                    obtain ⟨rfl, rfl, rfl⟩ := y1
                    have hne : A ≠ B := fun e => hij (hS.sep i j A ⟨_, hi, rfl⟩ ⟨_, hj, rfl⟩ ⟨_, _, m0⟩ ⟨_, _, by rw [e]; exact m1⟩)
                    have z0 : fz.2 = 0 := x4.resolve_right fun h => hτ h.2
                    have hfz : ∀ o, w.frozen? ⟨A, o, none⟩ = false := fun o => by
                      obtain ⟨lo, hi'⟩ := fz
                      simp only at z0
                      subst z0
                      simp [World.frozen?, x2]
                    have z1 : fz'.2 = 0 := y4.resolve_right fun h => hσ h.2
                    have hfz' : ∀ o, w.frozen? ⟨B, o, none⟩ = false := fun o => by
                      obtain ⟨lo, hi'⟩ := fz'
                      simp only at z1
                      subst z1
                      simp [World.frozen?, y2]
                    exact run_apart w ht hz hne (tA := E) (kA := c.size) (tB := E') (kB := c'.size) (by simp [World.shape?, x2]) (by simp [World.shape?, y2]) hfz hfz'
              · exact triv (.inr p1)
            · exact triv (.inl p0)
          unfold Runs
          rw [run_callFunc_extern hf hname hb hn he, key]
          exact ⟨.one (.bool false), ok, μ, m, hq, Move.refl hS, rfl⟩
      · cases hq
  · cases hq
end
end Go.Ev

/- Contracts of Go's library over lists: copies. Own work. -/
set_option maxRecDepth 100000
set_option linter.unusedVariables false
namespace Go.Ev.Tab
open Go Go.Ev.X Go.Proofs

/-- .. with all slices as arrays of their own at some loops' heads. -/
noncomputable abbrev rco (own : List Nat) (H : List (Nat × (List AV → Mem → AK → R))) (L : List (Nat × (List AV → Mem → XK → R))) (x : FX) : RC := rcOf T sr (X.polOf funcs) (lookP H) (lookL L) x 0 false [] own
theorem fno_ok {f : Nat} {x : FX} {own : List Nat} {H : List (Nat × (List AV → Mem → AK → R))} {L : List (Nat × (List AV → Mem → XK → R))} (hx : funcs.get f = some x) (hc : x.code = some (codeOf x)) (hH : AllOK Try.prog H) (hd : nodupB ((loopsOf (codeOf x)).map loopKey) = true)
    (hL : AllL (rco own H L x) (codeOf x) L) : COK Try.prog f (body (rco own H L x) (codeOf x)) :=
  ⟨func_ok tab (lookP_ok hH.mem) hx hc (only_list rfl hd hL.mem)⟩

theorem fits_no {p : Prop} {a B : Nat} (h : (decide (a * B ≤ 70368744177664) && decide (a ≤ 1099511627776)) = false) (ha : a ≤ 4194304) (hB : Nat.ble B 4096 = true) : p := by
  have hB' := Nat.le_of_ble_eq_true hB
  have h1 : a * B ≤ 4194304 * 4096 := Nat.mul_le_mul ha hB'
  have e1 : decide (a * B ≤ 70368744177664) = true := by simp; omega
  have e2 : decide (a ≤ 1099511627776) = true := by simp; omega
  rw [e1, e2] at h
  cases h

/-! ### a copy of a list -/
/-- A list of the call's own. -/
abbrev refA (i : Nat) : AV := .one (.ref i (.tail 0) none)
def pClone (τ : Ty) : List AV → Mem → AK → R := fun args m k =>
  match args, m with
  | [.val (.one (.sl σ xs nl lim))], [] => if h : σ = τ then gd (decide (xs.length ≤ 1048576)) (k (refA 100000000) [(100000000, .arr τ (h ▸ xs) false)]) else none
  | _, _ => none
noncomputable def cCloneG := body (rco [retKey] [] [] fx53) (codeOf fx53)
theorem cCloneG_ok : COK Try.prog 53 cCloneG := fno_ok (x := fx53) (own := [retKey]) (H := []) (L := []) rfl rfl trivial (by kernel_rfl) trivial
theorem cloneG_ok : COK Try.prog 53 (pClone G) := by
  refine ⟨CallOK.nil1 cCloneG_ok.ok fun args m k r h => ?_⟩
  unfold pClone at h
  split at h
  · rename_i σ xs nl lim
    split at h
    · rename_i e
      subst e
      obtain ⟨hb, h⟩ := gd_some.mp h
      simp only [decide_eq_true_eq] at hb
      refine ⟨_, xs, nl, lim, rfl, ?_, ?_⟩
      · cases xs with
        | nil =>
          conv => lhs; whnf
          exact h
        | cons x xs =>
          conv => lhs; whnf
          split
          · conv => lhs; whnf
            exact h
          · rename_i hx
            exact fits_no hx (Nat.le_trans hb (by decide)) rfl
      · rintro rfl
        conv => lhs; whnf
        exact h
    · cases h
  · cases h
end Go.Ev.Tab

/- Contracts of Go's library over lists: one put in. Own work. -/
set_option maxRecDepth 100000
set_option maxHeartbeats 4000000
set_option linter.unusedVariables false
namespace Go.Ev.Tab
open Go Go.Ev.X Go.Proofs

theorem sizeOf_run {P : Program} {t : TypeId} {i : TypeInfo} (hi : P.info? t = some i) (w : World) : (Go.sizeOf t).run P w = .ok i.size w := by
  simp [sizeOf, typeInfo, hi]
def ins {α : Type} (xs : List α) (i : Nat) (g : α) : List α := xs.take i ++ g :: xs.drop i
def pInsert (τ : Ty) : List AV → Mem → AK → R := fun args m k =>
  match args, m with
  | [.val (.one (.ref 0 (.tail 0) none)), .val (.one (.int .i64 i)), .val (.one (.ref 1 (.tail 0) lim))], [(0, .arr σ xs false), (1, .arr ρ ys ro)] =>
    if h : σ = τ then if h' : ρ = τ then
      match ys with
      | [g] => gd (decide (0 ≤ i) && decide (i ≤ xs.length) && decide (xs.length ≤ 1048576))
          (k (refA 100000003) [(0, .dead), (1, .arr ρ [g] ro), (2, .dead), (100000003, .arr τ (ins (h ▸ xs) i.toNat (h' ▸ g)) false)])
      | _ => none
    else none else none
  | _, _ => none

theorem ovG_ok : COK Try.prog 54 pOverlap := ⟨overlaps_ok (tS := 23) (tR := 4) (e := 29) Try.func54 (by kernel_rfl) (by kernel_rfl) (by kernel_rfl) (by kernel_rfl) (by kernel_rfl) (sizeOf_run (i := (Try.prog.info? 29).getD default) (by kernel_rfl))⟩
noncomputable def cInsG := body (rco [retKey] [(54, pOverlap)] [] fx33) (codeOf fx33)
theorem cInsG_ok : COK Try.prog 33 cInsG := fno_ok (x := fx33) (own := [retKey]) (H := [(54, pOverlap)]) (L := []) rfl rfl ⟨ovG_ok, trivial⟩ (by kernel_rfl) trivial
theorem rep_int {κ : IntKind} {n : Int} (ok : Ok) (μ μ' : Mu) (m m' : Mem) (w : World) (v : Value) (h : RepAV ok μ m w (.one (.int κ n)) v) : RepAV ok μ' m' w (.one (.int κ n)) v := h
theorem kIns {k : AK} {o1 o2 : Obj} {τ : Ty} {a b : List τ.El} {r : AV × Mem} (h : k (refA 100000003) [(0, .dead), (1, o1), (2, .dead), (100000003, .arr τ b false)] = some r) (e : a = b) :
    k (refA 100000003) (Mem.set [(0, .dead), (1, o1), (2, o2), (100000003, .arr τ a false)] 2 .dead) = some r := by subst e; exact h
theorem fits_no2 {p : Prop} {a B : Nat} (h : X.fits T B a = false) (ha : a ≤ 4194304) (hB : Nat.ble (T B).bytes 4096 = true) : p := fits_no h ha hB
theorem fits_no3 {p : Prop} {n : Int} {B : Nat} (h : (decide (0 ≤ n) && decide (n ≤ 1099511627776) && decide (n * ((T B).bytes : Nat) ≤ 70368744177664)) = false) (h0 : 0 ≤ n) (ha : n ≤ 4194304) (hB : Nat.ble (T B).bytes 4096 = true) : p := by
  have hB' := Nat.le_of_ble_eq_true hB
  have h1 : n * ((T B).bytes : Nat) ≤ 4194304 * 4096 := Int.mul_le_mul ha (by omega) (by omega) (by omega)
  have e1 : decide (n * ((T B).bytes : Nat) ≤ 70368744177664) = true := by simp; omega
  rw [e1, decide_eq_true h0, decide_eq_true (show n ≤ 1099511627776 by omega)] at h
  cases h
theorem toN2 (a b : Nat) : ((a : Int) + ((b : Int) + 1) + 1).toNat = a + b + 2 := by omega
theorem toN3 (a b : Nat) : a + b + 2 - a = b + 2 := by omega
theorem toN4 (a b : Nat) : a + b + 2 - (a + 1) = b + 1 := by omega
theorem insG_ok : COK Try.prog 33 (pInsert G) := by
  refine ⟨CallOK.open3 cInsG_ok.ok fun args m k r h => ?_⟩
  unfold pInsert at h
  split at h
  · rename_i i lim σ xs ρ ys ro
    split at h
    · rename_i e
      subst e
      split at h
      · rename_i e
        subst e
        split at h
        · rename_i g
          obtain ⟨hb, h⟩ := gd_some.mp h
          simp only [Bool.and_eq_true, decide_eq_true_eq] at hb
          obtain ⟨⟨h0, h1⟩, h2⟩ := hb
          obtain ⟨j, rfl⟩ : ∃ j : Nat, i = j := ⟨i.toNat, by omega⟩
          refine ⟨_, _, xs, [g], ro, .one (.int .i64 j), lim, by unfold big; omega, ⟨rfl, rep_int⟩, rfl, rfl, fun zs c hz => ?_⟩
          obtain ⟨a, b, rfl, rfl⟩ : ∃ a b, xs = a ++ b ∧ j = a.length := ⟨xs.take j, xs.drop j, by simp, by simp; omega⟩
          simp only [List.length_append] at h2
          rcases hz with ⟨rfl, rfl⟩ | ⟨z, rfl, hc⟩
          · cases b
            all_goals simp only [List.length_cons, List.length_nil] at h2
            all_goals conv => lhs; whnf
            all_goals repeat' ((first | split | ((conv => lhs; arg 3; whnf); split)) <;> first | (exfalso; rename_i hx; first | (simp (disch := omega) [leavesIds, V.leaves, Leaf.ids, mem?, nbeq, Ty.width, wrap_id, View.lenN, View.off, View.len_eq, sees_tail, sees_sub, rec_k, tn1, tn2, tn3, tn4, tn5, tn6] at hx; done) | (simp (disch := omega) [leavesIds, V.leaves, Leaf.ids, mem?, nbeq, Ty.width, wrap_id, View.lenN, View.off, View.len_eq, sees_tail, sees_sub, rec_k, tn1, tn2, tn3, tn4, tn5, tn6] at hx; omega) | (refine absurd (hx.symm.trans ?_) Bool.false_ne_true; (try simp only [Bool.and_eq_true, decide_eq_true_eq]); (try simp (disch := omega) [leavesIds, V.leaves, Leaf.ids, mem?, nbeq, Ty.width, wrap_id, View.lenN, View.off, View.len_eq, sees_tail, sees_sub, rec_k, tn1, tn2, tn3, tn4, tn5, tn6]); (try omega); done) | omega) | (rename_i he; cases he; conv => lhs; whnf) | (conv => lhs; whnf))
            all_goals first
              | (refine kIns h ?_; simp (disch := omega) [ins, toN2, toN3, toN4, View.lenN, View.off, View.len_eq, sees_tail, sees_sub, rec_k, wrap_id, List.take_append, List.drop_append, List.take_of_length_le, List.drop_of_length_le]; first | done | omega)
              | (rename_i hx; exfalso; exact fits_no2 hx (by simp (disch := omega) [View.lenN, View.off, View.len_eq, sees_tail, sees_sub, rec_k, wrap_id]; omega) rfl)
              | (rename_i hx; exfalso; exact fits_no3 hx (by simp (disch := omega) [View.lenN, View.off, View.len_eq, sees_tail, sees_sub, rec_k, wrap_id]; omega) (by simp (disch := omega) [View.lenN, View.off, View.len_eq, sees_tail, sees_sub, rec_k, wrap_id]; omega) rfl)
              | (refine kIns h ?_; simp (disch := omega) [ins, toN2, toN3, toN4, View.lenN, View.off, View.len_eq, sees_tail, sees_sub, rec_k, wrap_id, List.take_append, List.drop_append, List.take_of_length_le, List.drop_of_length_le]; first | done | omega)
          · simp only [List.length_append] at hc
            cases b
            all_goals simp only [List.length_cons, List.length_nil] at h2 hc
            all_goals conv => lhs; whnf
            all_goals repeat' ((first | split | ((conv => lhs; arg 3; whnf); split)) <;> first | (exfalso; rename_i hx; first | (simp (disch := omega) [leavesIds, V.leaves, Leaf.ids, mem?, nbeq, Ty.width, wrap_id, View.lenN, View.off, View.len_eq, sees_tail, sees_sub, rec_k, tn1, tn2, tn3, tn4, tn5, tn6] at hx; done) | (simp (disch := omega) [leavesIds, V.leaves, Leaf.ids, mem?, nbeq, Ty.width, wrap_id, View.lenN, View.off, View.len_eq, sees_tail, sees_sub, rec_k, tn1, tn2, tn3, tn4, tn5, tn6] at hx; omega) | (refine absurd (hx.symm.trans ?_) Bool.false_ne_true; (try simp only [Bool.and_eq_true, decide_eq_true_eq]); (try simp (disch := omega) [leavesIds, V.leaves, Leaf.ids, mem?, nbeq, Ty.width, wrap_id, View.lenN, View.off, View.len_eq, sees_tail, sees_sub, rec_k, tn1, tn2, tn3, tn4, tn5, tn6]); (try omega); done) | omega) | (rename_i he; cases he; conv => lhs; whnf) | (conv => lhs; whnf))
            all_goals first
              | (refine kIns h ?_; simp (disch := omega) [ins, toN2, toN3, toN4, View.lenN, View.off, View.len_eq, sees_tail, sees_sub, rec_k, wrap_id, List.take_append, List.drop_append, List.take_of_length_le, List.drop_of_length_le]; first | done | omega)
              | (rename_i hx; exfalso; exact fits_no2 hx (by simp (disch := omega) [View.lenN, View.off, View.len_eq, sees_tail, sees_sub, rec_k, wrap_id]; omega) rfl)
              | (rename_i hx; exfalso; exact fits_no3 hx (by simp (disch := omega) [View.lenN, View.off, View.len_eq, sees_tail, sees_sub, rec_k, wrap_id]; omega) (by simp (disch := omega) [View.lenN, View.off, View.len_eq, sees_tail, sees_sub, rec_k, wrap_id]; omega) rfl)
              | (refine kIns h ?_; simp (disch := omega) [ins, toN2, toN3, toN4, View.lenN, View.off, View.len_eq, sees_tail, sees_sub, rec_k, wrap_id, List.take_append, List.drop_append, List.take_of_length_le, List.drop_of_length_le]; first | done | omega)
        · cases h
      · cases h
    · cases h
  · cases h
end Go.Ev.Tab

/- Contracts of Go's library over lists: some taken out. Own work. -/
set_option maxRecDepth 100000
set_option maxHeartbeats 4000000
set_option linter.unusedVariables false
namespace Go.Ev.Tab
open Go Go.Ev.X Go.Proofs

def pDelete (τ : Ty) : List AV → Mem → AK → R := fun args m k =>
  match args, m with
  | [.val (.one (.ref 0 (.tail 0) none)), .val (.one (.int .i64 i)), .val (.one (.int .i64 j))], [(0, .arr σ xs false)] =>
    if h : σ = τ then gd (decide (0 ≤ i) && decide (i ≤ j) && decide (j ≤ xs.length) && decide (xs.length ≤ 1048576))
      (k (refA 100000001) [(0, .dead), (100000001, .arr τ ((h ▸ xs : List τ.El).take i.toNat ++ (h ▸ xs : List τ.El).drop j.toNat) false)]) else none
  | _, _ => none
theorem kDel {k : AK} {τ : Ty} {a b : List τ.El} {r : AV × Mem} (h : k (refA 100000001) [(0, .dead), (100000001, .arr τ b false)] = some r) (e : a = b) : k (refA 100000001) [(0, .dead), (100000001, .arr τ a false)] = some r := by subst e; exact h
noncomputable def cDelG := body (rco [retKey] [] [] fx57) (codeOf fx57)
theorem cDelG_ok : COK Try.prog 57 cDelG := fno_ok (x := fx57) (own := [retKey]) (H := []) (L := []) rfl rfl trivial (by kernel_rfl) trivial
theorem delG_ok : COK Try.prog 57 (pDelete G) := by
  refine ⟨CallOK.weaken cDelG_ok.ok fun args m k r h => ?_⟩
  unfold pDelete at h
  split at h
  · rename_i i j σ xs
    split at h
    · rename_i e
      subst e
      obtain ⟨hb, h⟩ := gd_some.mp h
      simp only [Bool.and_eq_true, decide_eq_true_eq] at hb
      obtain ⟨⟨⟨h0, h1⟩, h2⟩, h3⟩ := hb
      obtain ⟨i, rfl⟩ : ∃ n : Nat, i = n := ⟨i.toNat, by omega⟩
      obtain ⟨j, rfl⟩ : ∃ n : Nat, j = n := ⟨j.toNat, by omega⟩
      obtain ⟨a, c, rfl, rfl⟩ : ∃ a b, xs = a ++ b ∧ i = a.length := ⟨xs.take i, xs.drop i, by simp, by simp; omega⟩
      simp only [List.length_append] at h2 h3
      obtain ⟨b, c, rfl, hj⟩ : ∃ b d, c = b ++ d ∧ j = a.length + b.length := ⟨c.take (j - a.length), c.drop (j - a.length), by simp, by simp; omega⟩
      subst hj
      simp only [List.length_append] at h2 h3
      cases b
      all_goals simp only [List.length_cons, List.length_nil] at h1 h2 h3 h
      all_goals conv => lhs; whnf
      all_goals repeat' ((first | split | ((conv => lhs; arg 3; whnf); split)) <;> first | (exfalso; rename_i hx; first | (simp (disch := omega) [leavesIds, V.leaves, Leaf.ids, mem?, nbeq, Ty.width, wrap_id, View.lenN, View.off, View.len_eq, sees_tail, sees_sub, rec_k, tn1, tn2, tn3, tn4, tn5, tn6] at hx; done) | (simp (disch := omega) [leavesIds, V.leaves, Leaf.ids, mem?, nbeq, Ty.width, wrap_id, View.lenN, View.off, View.len_eq, sees_tail, sees_sub, rec_k, tn1, tn2, tn3, tn4, tn5, tn6] at hx; omega) | (refine absurd (hx.symm.trans ?_) Bool.false_ne_true; (try simp only [Bool.and_eq_true, decide_eq_true_eq]); (try simp (disch := omega) [leavesIds, V.leaves, Leaf.ids, mem?, nbeq, Ty.width, wrap_id, View.lenN, View.off, View.len_eq, sees_tail, sees_sub, rec_k, tn1, tn2, tn3, tn4, tn5, tn6]); (try omega); done) | omega) | (rename_i he; cases he; conv => lhs; whnf) | (conv => lhs; whnf))
      all_goals first
        | (refine kDel h ?_; simp (disch := omega) [leavesIds, V.leaves, Leaf.ids, mem?, nbeq, Ty.width, wrap_id, View.lenN, View.off, View.len_eq, sees_tail, sees_sub, rec_k, tn1, tn2, tn3, tn4, tn5, tn6, List.take_append, List.drop_append, List.take_of_length_le, List.drop_of_length_le]; first | done | omega)
        | fail
    · cases h
  · cases h
end Go.Ev.Tab

set_option maxRecDepth 100000
set_option linter.unusedVariables false
namespace Go.Ev.Tab
open Go Go.Ev.X Go.Proofs

/-! ### the order of grants -/
def order (a b : GG) : Int := orI [cmpI a.2.1.1 b.2.1.1, cmpI a.2.1.2 b.2.1.2, cmpI a.1 b.1]
def pOrder := ansP [G, G] fun x => .one (.int .i64 (order x.1 x.2.1))
theorem order_ok : COK Try.prog 40 pOrder := by
  refine ans_cok (fn_ok (x := fx40) (H := [(58, pOr), (59, pCompare)]) (L := []) rfl rfl ⟨or_ok, compare_ok, trivial⟩ (by kernel_rfl) trivial) ?_
  rintro ⟨a, b, u⟩ k hb
  clear hb
  conv => lhs; whnf
  exact kint rfl
end Go.Ev.Tab

set_option maxRecDepth 100000
set_option linter.unusedVariables false
namespace Go.Ev.Tab
open Go Go.Ev.X Go.Proofs

theorem mid_w {i j : Nat} (h : i + j < 9223372036854775808) : IntKind.i64.wrap ((IntKind.u64.wrap (IntKind.i64.wrap ((i : Int) + (j : Int)))).fdiv (2 ^ min (Int.toNat 1) IntKind.u64.bits)) = (((i + j) / 2 : Nat) : Int) := by
  rw [wrap_id (n := (i : Int) + j) (by omega) (by omega)]
  have hu : IntKind.u64.wrap ((i : Int) + j) = (i : Int) + j := by
    unfold IntKind.wrap
    simp only [IntKind.signed, IntKind.bits]
    simp
    omega
  rw [hu]
  have h2 : (2 : Int) ^ min (Int.toNat 1) IntKind.u64.bits = 2 := by decide
  rw [h2]
  rw [Int.fdiv_eq_ediv_of_nonneg _ (by omega)]
  rw [wrap_id (by omega) (by omega)]
  omega

theorem tf {p : Prop} {c : Bool} (h1 : c = true) (h2 : c = false) : p := by rw [h1] at h2; cases h2
theorem ktib {k : AK} {m : Mem} {κ : IntKind} {i : Int} {x y : Bool} (h : x = y) : k (.tup [.one (.int κ i), .one (.bool x)]) m = k (.tup [.one (.int κ i), .one (.bool y)]) m := by rw [h]

/-! ### where a grant is, or would be -/
abbrev g0 : GG := (0, (0, 0), 0)
def bsN (xs : List GG) (g : GG) : Nat → Nat → Nat → Nat
  | 0, i, _ => i
  | n + 1, i, j => if i < j then (bif decide (order (xs.getD ((i + j) / 2) g0) g < 0) then bsN xs g n ((i + j) / 2 + 1) j else bsN xs g n i ((i + j) / 2)) else i
theorem bsN_eq (xs : List GG) (g : GG) : ∀ (n m i j : Nat), j ≤ i + n → j ≤ i + m → bsN xs g n i j = bsN xs g m i j
  | 0, 0, i, j, _, _ => rfl
  | 0, m + 1, i, j, h, _ => by rw [bsN, bsN, if_neg (by omega)]
  | n + 1, 0, i, j, _, h => by rw [bsN, bsN, if_neg (by omega)]
  | n + 1, m + 1, i, j, h1, h2 => by
    rw [bsN, bsN]
    split
    · cases decide (order (xs.getD ((i + j) / 2) g0) g < 0) with
      | true => exact bsN_eq xs g n m _ _ (by omega) (by omega)
      | false => exact bsN_eq xs g n m _ _ (by omega) (by omega)
    · rfl
theorem bsN_le (xs : List GG) (g : GG) : ∀ (n i j : Nat), i ≤ j → bsN xs g n i j ≤ j
  | 0, i, j, h => h
  | n + 1, i, j, h => by
    rw [bsN]
    split
    · cases decide (order (xs.getD ((i + j) / 2) g0) g < 0) with
      | true => exact bsN_le xs g n _ _ (by omega)
      | false => exact Nat.le_trans (bsN_le xs g n _ _ (by omega)) (by omega)
    · exact h
abbrev gLeaves (g : GG) : List Leaf := [.int .i64 g.1, .int .i64 g.2.1.1, .int .i64 g.2.1.2, .int .i64 g.2.2]
theorem gLeaves_inj {g h : GG} (e : gLeaves g = gLeaves h) : g = h := by
  obtain ⟨a, ⟨b, c⟩, d⟩ := g
  obtain ⟨a', ⟨b', c'⟩, d'⟩ := h
  simp only [gLeaves, List.cons.injEq, Leaf.int.injEq, and_true, true_and] at e
  obtain ⟨rfl, rfl, rfl, rfl⟩ := e
  rfl
theorem box1_inj {i : Nat} {r : Bool} {a b : List Leaf} (h : [(i, Obj.box r a)] = [(i, Obj.box r b)]) : a = b := by cases h; rfl

abbrev BSt := List GG × GG × Nat × Nat
abbrev bsV (x : BSt) : List AV := [.one (.sl G x.1 none none), .one (.fn 40 [] []), .one (.ptr 100000000 0 none), .one (.int .i64 x.1.length), .one (.int .i64 x.2.2.1), .one (.int .i64 x.2.2.2)]
abbrev bsM (x : BSt) : Mem := [(100000000, .box false (gLeaves x.2.1))]
noncomputable def bsL := loopP (α := BSt) bsV bsM (fun x => x.2.2.1 ≤ x.2.2.2 ∧ x.2.2.2 ≤ x.1.length ∧ x.1.length ≤ big)
  (fun x K => K.exit 0 [.one (.sl G x.1 none none), .one (.fn 40 [] []), .one (.ptr 100000000 0 none), .one (.int .i64 x.1.length), .one (.int .i64 (bsN x.1 x.2.1 x.1.length x.2.2.1 x.2.2.2 : Nat))] (bsM x))
theorem bsL_inj (x y : BSt) (h : bsV x = bsV y) (h' : bsM x = bsM y) : x = y := by
  simp only [List.cons.injEq] at h
  exact Prod.ext (av_sl_inj h.1) (Prod.ext (gLeaves_inj (box1_inj h')) (Prod.ext (Int.ofNat.inj (av_int_inj h.2.2.2.2.1)) (Int.ofNat.inj (av_int_inj h.2.2.2.2.2.1))))
theorem bsL_ok : LoopOK (rc [(40, pOrder)] [(3, bsL)] fx62) (loopB 3 (codeOf fx62)) bsL := by
  refine loopP_ok bsL_inj (fun x => x.2.2.2 - x.2.2.1) ?_
  rintro ⟨xs, g, i, j⟩ K r N ⟨hi, hj, hb⟩ hN hf
  dsimp only at hi hj hb hN hf
  rcases Nat.lt_or_ge i j with hij | hij
  · have e1 := lt_t hij
    have hm : i + j < 9223372036854775808 := by unfold big at hb; omega
    have hh : (i + j) / 2 < xs.length := by omega
    have e2 := ix_t (a := G.width) (b := 4) rfl hh
    obtain ⟨n, hn⟩ : ∃ n, xs.length = n + 1 := ⟨xs.length - 1, by omega⟩
    have hbs : bsN xs g xs.length i j = bif decide (order (xs.getD ((i + j) / 2) g0) g < 0) then bsN xs g xs.length ((i + j) / 2 + 1) j else bsN xs g xs.length i ((i + j) / 2) := by
      rw [bsN_eq xs g xs.length (xs.length + 1) i j (by omega) (by omega)]
      conv => lhs; rw [bsN]
      rw [if_pos hij]
    rw [hbs] at hf
    conv => lhs; whnf
    rw [e1]
    conv => lhs; whnf
    conv => lhs; arg 3; whnf
    rw [mid_w hm, e2]
    conv => lhs; whnf
    split
    · rename_i h0
      have h0 : decide (order (xs.getD ((i + j) / 2) g0) g < 0) = true := h0
      conv => lhs; whnf
      rw [succ_w (by omega)]
      refine (hN (xs, g, (i + j) / 2 + 1, j) ⟨by simp only; omega, hj, hb⟩ (by simp only; omega)).trans ?_
      rw [← hf, h0]
      rfl
    · rename_i h0
      have h0 : decide (order (xs.getD ((i + j) / 2) g0) g < 0) = false := h0
      conv => lhs; whnf
      refine (hN (xs, g, i, (i + j) / 2) ⟨by simp only; omega, by simp only; omega, hb⟩ (by simp only; omega)).trans ?_
      rw [← hf, h0]
      rfl
  · have hbs : bsN xs g xs.length i j = i := by
      cases hx : xs.length with
      | zero => rw [bsN]
      | succ n => rw [bsN, if_neg (by omega)]
    rw [hbs] at hf
    conv => lhs; whnf
    rw [lt_f hij]
    conv => lhs; whnf
    exact hf

def bs (xs : List GG) (g : GG) : Nat := bsN xs g xs.length 0 xs.length
def bsHit (xs : List GG) (g : GG) : Bool := decide (bs xs g < xs.length) && (order (xs.getD (bs xs g) g0) g == 0)
theorem bsL_eq (xs : List GG) (g : GG) (K : XK) (hb : xs.length ≤ big) : bsL [.one (.sl G xs none none), .one (.fn 40 [] []), .one (.ptr 100000000 0 none), .one (.int .i64 xs.length), .one (.int .i64 0), .one (.int .i64 xs.length)] [(100000000, .box false (gLeaves g))] K =
    K.exit 0 [.one (.sl G xs none none), .one (.fn 40 [] []), .one (.ptr 100000000 0 none), .one (.int .i64 xs.length), .one (.int .i64 (bs xs g : Nat))] [(100000000, .box false (gLeaves g))] :=
  loopP_eq bsL_inj (x := (xs, g, 0, xs.length)) ⟨Nat.zero_le _, Nat.le_refl _, hb⟩ K
noncomputable def c62 := body (rc [(40, pOrder)] [(3, bsL)] fx62) (codeOf fx62)
theorem c62_ok : COK Try.prog 62 c62 := fn_ok (x := fx62) (H := [(40, pOrder)]) (L := [(3, bsL)]) rfl rfl ⟨order_ok, trivial⟩ (by kernel_rfl) ⟨bsL_ok, trivial⟩
abbrev LK : Ty := .pair I I
def pFind := ansP [.sl G, I, LK] fun x => .tup [.one (.int .i64 (bs x.1 (x.2.1, x.2.2.1, 0) : Nat)), .one (.bool (bsHit x.1 (x.2.1, x.2.2.1, 0)))]
theorem find_ok : COK Try.prog 52 pFind := by
  refine ans_cok (fn_ok (x := fx52) (H := [(62, c62)]) (L := []) rfl rfl ⟨c62_ok, trivial⟩ (by kernel_rfl) trivial) ?_
  rintro ⟨xs, tx, lk, u⟩ k ⟨hb, _⟩
  conv => lhs; whnf
  refine (bsL_eq xs (tx, lk, 0) _ hb.1).trans ?_
  have hle : bs xs (tx, lk, 0) ≤ List.length xs := bsN_le xs (tx, lk, 0) xs.length 0 xs.length (Nat.zero_le _)
  have hh : bsHit xs (tx, lk, 0) = (decide (bs xs (tx, lk, 0) < List.length xs) && (order (xs.getD (bs xs (tx, lk, 0)) g0) (tx, lk, 0) == 0)) := rfl
  show _ = k (.tup [.one (.int .i64 (bs xs (tx, lk, 0) : Nat)), .one (.bool (bsHit xs (tx, lk, 0)))]) []
  generalize bsHit xs (tx, lk, 0) = y at *
  generalize bs xs (tx, lk, 0) = i at *
  conv => lhs; whnf
  rcases Nat.lt_or_ge i xs.length with hlt | hge
  · have e1 := lt_t hlt
    have e2 := ix_t (a := G.width) (b := 4) rfl hlt
    rw [e1]
    conv => lhs; whnf
    conv => lhs; arg 3; whnf
    rw [e2]
    conv => lhs; whnf
    exact ktib (by rw [hh]; simp only [hlt, decide_true, Bool.true_and]; rfl)
  · rw [lt_f hge]
    conv => lhs; whnf
    exact ktib (by rw [hh]; simp [Nat.not_lt.mpr hge])
theorem bsHit_lt {xs : List GG} {g : GG} (h : bsHit xs g = true) : bs xs g < xs.length := by
  simp only [bsHit, Bool.and_eq_true, decide_eq_true_eq] at h
  exact h.1

/-! ### in which mode -/
abbrev TB : Ty := .pair (.sl G) (.sl G)
def modeI (xs : List GG) (tx : Int) (lk : Int × Int) : Int := bif bsHit xs (tx, lk, 0) then (xs.getD (bs xs (tx, lk, 0)) g0).2.2 else 0
def pMode := ansP [TB, I, LK] fun x => .one (.int .i64 (modeI x.1.1 x.2.1 x.2.2.1))
theorem mode_ok : COK Try.prog 31 pMode := by
  refine ans_cok (fn_ok (x := fx31) (H := [(52, pFind)]) (L := []) rfl rfl ⟨find_ok, trivial⟩ (by kernel_rfl) trivial) ?_
  rintro ⟨⟨xs, ws⟩, tx, lk, u⟩ k ⟨hb, _⟩
  have hm : modeI xs tx lk = bif bsHit xs (tx, lk, 0) then (xs.getD (bs xs (tx, lk, 0)) g0).2.2 else 0 := rfl
  show _ = k (.one (.int .i64 (modeI xs tx lk))) []
  generalize modeI xs tx lk = y at *
  conv => lhs; whnf
  split
  · rename_i h0
    have h0 : bsHit xs (tx, lk, 0) = true := h0
    have e2 := ix_t (a := G.width) (b := 4) rfl (bsHit_lt h0)
    conv => lhs; whnf
    split
    · conv => lhs; whnf
      exact kint (by rw [hm, h0]; rfl)
    · rename_i hx
      exact tf e2 hx
  · rename_i h0
    have h0 : bsHit xs (tx, lk, 0) = false := h0
    conv => lhs; whnf
    exact kint (by rw [hm, h0]; rfl)
end Go.Ev.Tab

set_option maxRecDepth 100000
set_option linter.unusedVariables false
namespace Go.Ev.Tab
open Go Go.Ev.X Go.Proofs

/-! ### the first grant of a transaction -/
def idxTx (tx : Int) : List GG → Nat → Option Nat
  | [], _ => none
  | g :: r, n => bif g.1 == tx then some n else idxTx tx r (n + 1)
theorem idxTx_bnd (tx : Int) : ∀ (l : List GG) (n j : Nat), idxTx tx l n = some j → n ≤ j ∧ j < n + l.length
  | [], n, j, h => by simp [idxTx] at h
  | g :: r, n, j, h => by
    simp only [idxTx] at h
    cases hc : g.1 == tx with
    | true => rw [hc] at h; cases h; exact ⟨Nat.le_refl _, by simp⟩
    | false => rw [hc] at h; have := idxTx_bnd tx r (n + 1) j h; simp only [List.length_cons]; omega
theorem box1_inj' {i j : Nat} {r s : Bool} {a b : List Leaf} (h : [(i, Obj.box r a)] = [(j, Obj.box s b)]) : a = b := by cases h; rfl
abbrev oneL (x : Int) : List Leaf := [.int .i64 x]
theorem oneL_inj {x y : Int} (h : oneL x = oneL y) : x = y := by simpa [oneL] using h
abbrev idI (x : Int) : Int := x
abbrev fstG (g : GG) : Int := g.1

/-! ### closure 45 -/
noncomputable def c45 := body (rc [] [] fx45) (codeOf fx45)
theorem c45_ok : COK Try.prog 45 c45 := fn_ok (x := fx45) (H := []) (L := []) rfl rfl trivial (by kernel_rfl) trivial
abbrev ISt45 := List GG × Int × Nat
abbrev ifV45 (x : ISt45) : List AV := [.one (.sl G x.1 none none), .one (.fn 45 [] [0]), .one (.int .i64 x.1.length), .one (.int .i64 x.2.2)]
abbrev ifM45 (x : Int) : Mem := [(0, .box false (oneL x))]
noncomputable def ifL45 := loopP (α := ISt45) ifV45 (fun x => ifM45 x.2.1) (fun x => x.1.length ≤ big)
  (fun x K => match idxTx (idI x.2.1) (x.1.drop x.2.2) x.2.2 with | some j => K.ret [.one (.int .i64 (j : Nat))] (ifM45 x.2.1) | none => K.exit 0 [] (ifM45 x.2.1))
theorem ifL45_inj (x y : ISt45) (h : ifV45 x = ifV45 y) (h' : ifM45 x.2.1 = ifM45 y.2.1) : x = y := by
  simp only [List.cons.injEq] at h
  exact Prod.ext (av_sl_inj h.1) (Prod.ext (oneL_inj (box1_inj' h')) (Int.ofNat.inj (av_int_inj h.2.2.2.1)))
theorem ifL45_ok : LoopOK (rc [(45, c45)] [(2, ifL45)] fx44) (loopB 2 (codeOf fx44)) ifL45 := by
  refine loopP_ok ifL45_inj (fun x => x.1.length - x.2.2) ?_
  rintro ⟨xs, g, i⟩ K r N hb hN hf
  dsimp only at hb hN hf
  rcases Nat.lt_or_ge i xs.length with h | h
  · have e1 := lt_t h
    have e2 := ix_t (a := G.width) (b := 4) rfl h
    rw [drop_nth xs i h, idxTx] at hf
    conv => lhs; whnf
    rw [e1]
    conv => lhs; whnf
    rw [e2]
    conv => lhs; whnf
    rw [getD_nth xs i _ h]
    split
    · rename_i h0
      have h0 : ((xs[i] : GG).1 == idI g) = true := h0
      rw [h0] at hf
      conv => lhs; whnf
      exact hf
    · rename_i h0
      have h0 : ((xs[i] : GG).1 == idI g) = false := h0
      rw [h0] at hf
      conv => lhs; whnf
      rw [succ_w (big_lt h hb)]
      exact (hN (xs, g, i + 1) hb (by simp only; omega)).trans hf
  · rw [List.drop_eq_nil_of_le h, idxTx] at hf
    conv => lhs; whnf
    rw [lt_f h]
    conv => lhs; whnf
    exact hf
theorem ifL45_eq (xs : List GG) (g : Int) (K : XK) (hb : xs.length ≤ big) : ifL45 [.one (.sl G xs none none), .one (.fn 45 [] [0]), .one (.int .i64 xs.length), .one (.int .i64 0)] [(0, .box false (oneL g))] K =
    match idxTx (idI g) xs 0 with | some j => K.ret [.one (.int .i64 (j : Nat))] [(0, .box false (oneL g))] | none => K.exit 0 [] [(0, .box false (oneL g))] :=
  loopP_eq ifL45_inj (x := (xs, g, 0)) hb K
theorem ifL45_none {xs : List GG} {g : Int} (hi : idxTx (idI g) xs 0 = none) (hb : xs.length ≤ big) (K : XK) : ifL45 [.one (.sl G xs none none), .one (.fn 45 [] [0]), .one (.int .i64 xs.length), .one (.int .i64 0)] [(0, .box false (oneL g))] K =
    K.exit 0 [] [(0, .box false (oneL g))] := (ifL45_eq xs g K hb).trans (by rw [hi])
theorem ifL45_some {xs : List GG} {g : Int} {j : Nat} (hi : idxTx (idI g) xs 0 = some j) (hb : xs.length ≤ big) (K : XK) : ifL45 [.one (.sl G xs none none), .one (.fn 45 [] [0]), .one (.int .i64 xs.length), .one (.int .i64 0)] [(0, .box false (oneL g))] K =
    K.ret [.one (.int .i64 (j : Nat))] [(0, .box false (oneL g))] := (ifL45_eq xs g K hb).trans (by rw [hi])
noncomputable def i45 := body (rc [(45, c45)] [(2, ifL45)] fx44) (codeOf fx44)
theorem i45_ok : COK Try.prog 44 i45 := fn_ok (x := fx44) (H := [(45, c45)]) (L := [(2, ifL45)]) rfl rfl ⟨c45_ok, trivial⟩ (by kernel_rfl) ⟨ifL45_ok, trivial⟩

/-! ### closure 51 -/
noncomputable def c51 := body (rc [] [] fx51) (codeOf fx51)
theorem c51_ok : COK Try.prog 51 c51 := fn_ok (x := fx51) (H := []) (L := []) rfl rfl trivial (by kernel_rfl) trivial
abbrev ISt51 := List GG × Int × Nat
abbrev ifV51 (x : ISt51) : List AV := [.one (.sl G x.1 none none), .one (.fn 51 [] [0]), .one (.int .i64 x.1.length), .one (.int .i64 x.2.2)]
abbrev ifM51 (x : Int) : Mem := [(0, .box false (oneL x))]
noncomputable def ifL51 := loopP (α := ISt51) ifV51 (fun x => ifM51 x.2.1) (fun x => x.1.length ≤ big)
  (fun x K => match idxTx (idI x.2.1) (x.1.drop x.2.2) x.2.2 with | some j => K.ret [.one (.int .i64 (j : Nat))] (ifM51 x.2.1) | none => K.exit 0 [] (ifM51 x.2.1))
theorem ifL51_inj (x y : ISt51) (h : ifV51 x = ifV51 y) (h' : ifM51 x.2.1 = ifM51 y.2.1) : x = y := by
  simp only [List.cons.injEq] at h
  exact Prod.ext (av_sl_inj h.1) (Prod.ext (oneL_inj (box1_inj' h')) (Int.ofNat.inj (av_int_inj h.2.2.2.1)))
theorem ifL51_ok : LoopOK (rc [(51, c51)] [(2, ifL51)] fx44) (loopB 2 (codeOf fx44)) ifL51 := by
  refine loopP_ok ifL51_inj (fun x => x.1.length - x.2.2) ?_
  rintro ⟨xs, g, i⟩ K r N hb hN hf
  dsimp only at hb hN hf
  rcases Nat.lt_or_ge i xs.length with h | h
  · have e1 := lt_t h
    have e2 := ix_t (a := G.width) (b := 4) rfl h
    rw [drop_nth xs i h, idxTx] at hf
    conv => lhs; whnf
    rw [e1]
    conv => lhs; whnf
    rw [e2]
    conv => lhs; whnf
    rw [getD_nth xs i _ h]
    split
    · rename_i h0
      have h0 : ((xs[i] : GG).1 == idI g) = true := h0
      rw [h0] at hf
      conv => lhs; whnf
      exact hf
    · rename_i h0
      have h0 : ((xs[i] : GG).1 == idI g) = false := h0
      rw [h0] at hf
      conv => lhs; whnf
      rw [succ_w (big_lt h hb)]
      exact (hN (xs, g, i + 1) hb (by simp only; omega)).trans hf
  · rw [List.drop_eq_nil_of_le h, idxTx] at hf
    conv => lhs; whnf
    rw [lt_f h]
    conv => lhs; whnf
    exact hf
theorem ifL51_eq (xs : List GG) (g : Int) (K : XK) (hb : xs.length ≤ big) : ifL51 [.one (.sl G xs none none), .one (.fn 51 [] [0]), .one (.int .i64 xs.length), .one (.int .i64 0)] [(0, .box false (oneL g))] K =
    match idxTx (idI g) xs 0 with | some j => K.ret [.one (.int .i64 (j : Nat))] [(0, .box false (oneL g))] | none => K.exit 0 [] [(0, .box false (oneL g))] :=
  loopP_eq ifL51_inj (x := (xs, g, 0)) hb K
theorem ifL51_none {xs : List GG} {g : Int} (hi : idxTx (idI g) xs 0 = none) (hb : xs.length ≤ big) (K : XK) : ifL51 [.one (.sl G xs none none), .one (.fn 51 [] [0]), .one (.int .i64 xs.length), .one (.int .i64 0)] [(0, .box false (oneL g))] K =
    K.exit 0 [] [(0, .box false (oneL g))] := (ifL51_eq xs g K hb).trans (by rw [hi])
theorem ifL51_some {xs : List GG} {g : Int} {j : Nat} (hi : idxTx (idI g) xs 0 = some j) (hb : xs.length ≤ big) (K : XK) : ifL51 [.one (.sl G xs none none), .one (.fn 51 [] [0]), .one (.int .i64 xs.length), .one (.int .i64 0)] [(0, .box false (oneL g))] K =
    K.ret [.one (.int .i64 (j : Nat))] [(0, .box false (oneL g))] := (ifL51_eq xs g K hb).trans (by rw [hi])
noncomputable def i51 := body (rc [(51, c51)] [(2, ifL51)] fx44) (codeOf fx44)
theorem i51_ok : COK Try.prog 44 i51 := fn_ok (x := fx44) (H := [(51, c51)]) (L := [(2, ifL51)]) rfl rfl ⟨c51_ok, trivial⟩ (by kernel_rfl) ⟨ifL51_ok, trivial⟩

/-! ### closure 43 -/
noncomputable def c43 := body (rc [] [] fx43) (codeOf fx43)
theorem c43_ok : COK Try.prog 43 c43 := fn_ok (x := fx43) (H := []) (L := []) rfl rfl trivial (by kernel_rfl) trivial
abbrev ISt43 := List GG × GG × Nat
abbrev ifV43 (x : ISt43) : List AV := [.one (.sl G x.1 none none), .one (.fn 43 [] [0]), .one (.int .i64 x.1.length), .one (.int .i64 x.2.2)]
abbrev ifM43 (x : GG) : Mem := [(0, .box false (gLeaves x))]
noncomputable def ifL43 := loopP (α := ISt43) ifV43 (fun x => ifM43 x.2.1) (fun x => x.1.length ≤ big)
  (fun x K => match idxTx (fstG x.2.1) (x.1.drop x.2.2) x.2.2 with | some j => K.ret [.one (.int .i64 (j : Nat))] (ifM43 x.2.1) | none => K.exit 0 [] (ifM43 x.2.1))
theorem ifL43_inj (x y : ISt43) (h : ifV43 x = ifV43 y) (h' : ifM43 x.2.1 = ifM43 y.2.1) : x = y := by
  simp only [List.cons.injEq] at h
  exact Prod.ext (av_sl_inj h.1) (Prod.ext (gLeaves_inj (box1_inj' h')) (Int.ofNat.inj (av_int_inj h.2.2.2.1)))
theorem ifL43_ok : LoopOK (rc [(43, c43)] [(2, ifL43)] fx44) (loopB 2 (codeOf fx44)) ifL43 := by
  refine loopP_ok ifL43_inj (fun x => x.1.length - x.2.2) ?_
  rintro ⟨xs, g, i⟩ K r N hb hN hf
  dsimp only at hb hN hf
  rcases Nat.lt_or_ge i xs.length with h | h
  · have e1 := lt_t h
    have e2 := ix_t (a := G.width) (b := 4) rfl h
    rw [drop_nth xs i h, idxTx] at hf
    conv => lhs; whnf
    rw [e1]
    conv => lhs; whnf
    rw [e2]
    conv => lhs; whnf
    rw [getD_nth xs i _ h]
    split
    · rename_i h0
      have h0 : ((xs[i] : GG).1 == fstG g) = true := h0
      rw [h0] at hf
      conv => lhs; whnf
      exact hf
    · rename_i h0
      have h0 : ((xs[i] : GG).1 == fstG g) = false := h0
      rw [h0] at hf
      conv => lhs; whnf
      rw [succ_w (big_lt h hb)]
      exact (hN (xs, g, i + 1) hb (by simp only; omega)).trans hf
  · rw [List.drop_eq_nil_of_le h, idxTx] at hf
    conv => lhs; whnf
    rw [lt_f h]
    conv => lhs; whnf
    exact hf
theorem ifL43_eq (xs : List GG) (g : GG) (K : XK) (hb : xs.length ≤ big) : ifL43 [.one (.sl G xs none none), .one (.fn 43 [] [0]), .one (.int .i64 xs.length), .one (.int .i64 0)] [(0, .box false (gLeaves g))] K =
    match idxTx (fstG g) xs 0 with | some j => K.ret [.one (.int .i64 (j : Nat))] [(0, .box false (gLeaves g))] | none => K.exit 0 [] [(0, .box false (gLeaves g))] :=
  loopP_eq ifL43_inj (x := (xs, g, 0)) hb K
theorem ifL43_none {xs : List GG} {g : GG} (hi : idxTx (fstG g) xs 0 = none) (hb : xs.length ≤ big) (K : XK) : ifL43 [.one (.sl G xs none none), .one (.fn 43 [] [0]), .one (.int .i64 xs.length), .one (.int .i64 0)] [(0, .box false (gLeaves g))] K =
    K.exit 0 [] [(0, .box false (gLeaves g))] := (ifL43_eq xs g K hb).trans (by rw [hi])
theorem ifL43_some {xs : List GG} {g : GG} {j : Nat} (hi : idxTx (fstG g) xs 0 = some j) (hb : xs.length ≤ big) (K : XK) : ifL43 [.one (.sl G xs none none), .one (.fn 43 [] [0]), .one (.int .i64 xs.length), .one (.int .i64 0)] [(0, .box false (gLeaves g))] K =
    K.ret [.one (.int .i64 (j : Nat))] [(0, .box false (gLeaves g))] := (ifL43_eq xs g K hb).trans (by rw [hi])
noncomputable def i43 := body (rc [(43, c43)] [(2, ifL43)] fx44) (codeOf fx44)
theorem i43_ok : COK Try.prog 44 i43 := fn_ok (x := fx44) (H := [(43, c43)]) (L := [(2, ifL43)]) rfl rfl ⟨c43_ok, trivial⟩ (by kernel_rfl) ⟨ifL43_ok, trivial⟩
end Go.Ev.Tab

set_option maxRecDepth 100000
set_option linter.unusedVariables false
namespace Go.Ev.Tab
open Go Go.Ev.X Go.Proofs

/-! ### sorting: short lists -/
def pLess := ansP [I, I] fun x => .one (.bool (decide (x.1 < x.2.1)))
theorem less_ok : COK Try.prog 72 pLess := by
  refine ans_cok (fn_ok (x := fx72) (H := [(65, pFalse [I])]) (L := []) rfl rfl ⟨isNaN_ok, trivial⟩ (by kernel_rfl) trivial) ?_
  rintro ⟨a, b, u⟩ k hb
  clear hb
  conv => lhs; whnf
  repeat' (split <;> (conv => lhs; whnf))
  all_goals exact kbool (by simp_all)

theorem ixr_t {a b i n : Nat} (hab : Nat.beq a b = true) (h : i < n) : (Nat.beq a b && decide ((0 : Int) ≤ (i : Int)) && decide ((i : Int) < ((View.tail 0).lenN n : Nat))) = true := ix_t hab h
theorem ixl_t {a b i n : Nat} (hab : Nat.beq a b = true) (h : i < n) : (Nat.beq a b && decide (i < n)) = true := by rw [hab]; simp [h]
theorem off_to (j : Nat) : (View.tail 0).off + ((j : Nat) : Int).toNat = j := by simp [View.off]
theorem pred_w {j : Nat} (h : j < 9223372036854775807) : IntKind.i64.wrap (((j + 1 : Nat) : Int) - 1) = (j : Int) := by
  rw [wrap_id (by omega) (by omega)]; omega
abbrev swp (xs : List Int) (j : Nat) : List Int := (xs.set (j + 1) (xs.getD j 0)).set j (xs.getD (j + 1) 0)
def bub : Nat → List Int → List Int
  | 0, xs => xs
  | j + 1, xs => bif decide (xs.getD (j + 1) 0 < xs.getD j 0) then bub j (swp xs j) else xs
theorem bub_len : ∀ (j : Nat) (xs : List Int), (bub j xs).length = xs.length
  | 0, xs => rfl
  | j + 1, xs => by
    rw [bub]
    cases decide (xs.getD (j + 1) 0 < xs.getD j 0) with
    | true => rw [cond_true, bub_len j]; simp
    | false => rfl

structure SI where
  xs : List Int
  i : Nat
  j : Nat
abbrev siV (x : SI) : List AV := [.one (.ref 0 (.tail 0) none), .one (.int .i64 0), .one (.int .i64 x.xs.length), .one (.int .i64 x.i), .one (.int .i64 x.j)]
abbrev arrM (xs : List Int) : Mem := [(0, .arr I xs false)]
noncomputable def siL := loopP siV (fun x => arrM x.xs) (fun x => x.j < x.xs.length ∧ x.xs.length ≤ big)
  (fun x K => K.exit 2 [.one (.ref 0 (.tail 0) none), .one (.int .i64 0), .one (.int .i64 x.xs.length), .one (.int .i64 x.i)] (arrM (bub x.j x.xs)))
theorem arrM_inj {a b : List Int} (h : arrM a = arrM b) : a = b := by cases h; rfl
theorem siL_inj (x y : SI) (h : siV x = siV y) (h' : arrM x.xs = arrM y.xs) : x = y := by
  obtain ⟨xs, i, j⟩ := x
  obtain ⟨xs', i', j'⟩ := y
  have h' := arrM_inj h'
  dsimp only at h'
  subst h'
  simp_all [siV]
  omega
def insN (n : Nat) : Nat → List Int → Nat → List Int
  | 0, xs, i => xs
  | f + 1, xs, i => if i < n then insN n f (bub i xs) (i + 1) else xs
structure SO where
  xs : List Int
  i : Nat
def soV : Option SO → List AV
  | some x => [.one (.ref 0 (.tail 0) none), .one (.int .i64 0), .one (.int .i64 x.xs.length), .one (.int .i64 x.i)]
  | none => [.one (.sl I [] (some true) (some 0)), .one (.int .i64 0), .one (.int .i64 0), .one (.int .i64 1)]
def soM : Option SO → Mem
  | some x => arrM x.xs
  | none => []
noncomputable def soL := loopP soV soM (fun x => ∀ y, x = some y → y.xs.length ≤ big)
  (fun x K => match x with | some x => K.exit 0 [] (arrM (insN x.xs.length (x.xs.length - x.i) x.xs x.i)) | none => K.exit 0 [] [])
theorem siL_ok : LoopOK (rc [(72, pLess)] [(1, soL), (4, siL)] fx66) (loopB 4 (codeOf fx66)) siL := by
  refine loopP_ok siL_inj (fun x => x.j) ?_
  rintro ⟨xs, i, j⟩ K r N ⟨hj, hb⟩ hN hf
  dsimp only at hj hb hN hf
  cases j with
  | zero =>
    conv => lhs; whnf
    exact hf
  | succ j =>
    have e2 := ixr_t (a := I.width) (b := 1) rfl hj
    have e3 := ixr_t (a := I.width) (b := 1) rfl (show j < xs.length by omega)
    have e1 : decide (((j + 1 : Nat) : Int) > 0) = true := by simp
    conv => lhs; whnf
    rw [e1]
    have e2s : (Nat.beq I.width I.width && decide (j + 1 < xs.length) && !mem? 0 []) = true := by rw [ixl_t rfl hj]; rfl
    have e3s : ∀ y, (Nat.beq I.width I.width && decide (j < (xs.set (j + 1) y).length) && !mem? 0 []) = true := fun y => by rw [ixl_t rfl (by rw [List.length_set]; omega)]; rfl
    have e3t : ∀ y, (Nat.beq I.width 1 && decide (0 ≤ (j : Int)) && decide ((j : Int) < ((View.tail 0).lenN (xs.set (j + 1) y).length : Nat))) = true := fun y => ixr_t rfl (by rw [List.length_set]; omega)
    have e2' := ixl_t (a := I.width) (b := I.width) rfl hj
    have e3' := ixl_t (a := I.width) (b := I.width) rfl (show j < xs.length by omega)
    conv => lhs; whnf
    conv => lhs; arg 3; whnf
    rw [e2, off_to]
    conv => lhs; whnf
    conv => lhs; arg 3; whnf
    rw [e2']
    conv => lhs; whnf
    conv => lhs; arg 3; whnf
    rw [pred_w (show j < 9223372036854775807 by unfold big at hb; omega), e3, off_to]
    conv => lhs; whnf
    conv => lhs; arg 3; whnf
    rw [e3']
    conv => lhs; whnf
    split
    · rename_i h0
      have h0 : decide (xs.getD (j + 1) 0 < xs.getD j 0) = true := h0
      conv => lhs; whnf
      conv => lhs; arg 3; whnf
      rw [pred_w (show j < 9223372036854775807 by unfold big at hb; omega), e3, off_to]
      conv => lhs; whnf
      conv => lhs; arg 3; whnf
      rw [e3']
      conv => lhs; whnf
      conv => lhs; arg 3; whnf
      rw [e2, off_to]
      conv => lhs; whnf
      conv => lhs; arg 3; whnf
      rw [e2']
      conv => lhs; whnf
      conv => lhs; arg 3; whnf
      rw [e2, off_to]
      conv => lhs; whnf
      conv => lhs; arg 3; whnf
      split
      rotate_left
      · rename_i hx
        exact tf e2s hx
      · conv => lhs; whnf
        conv => lhs; arg 3; whnf
        rw [e3t, off_to]
        conv => lhs; whnf
        conv => lhs; arg 3; whnf
        split
        rotate_left
        · rename_i hx
          exact tf (e3s _) hx
        · conv => lhs; whnf
          rw [pred_w (show j < 9223372036854775807 by unfold big at hb; omega)]
          rw [bub, h0, cond_true] at hf
          have hl : (swp xs j).length = xs.length := by simp
          have h3 := hN ⟨swp xs j, i, j⟩ ⟨by dsimp only; rw [hl]; omega, by dsimp only; rw [hl]; exact hb⟩ (Nat.lt_succ_self j)
          dsimp only [siV] at h3
          rw [hl] at h3
          exact h3.trans hf
    · rename_i h0
      have h0 : decide (xs.getD (j + 1) 0 < xs.getD j 0) = false := h0
      conv => lhs; whnf
      rw [bub, h0] at hf
      exact hf

theorem soL_inj (x y : Option SO) (h : soV x = soV y) (h' : soM x = soM y) : x = y := by
  cases x with
  | none => cases y with
    | none => rfl
    | some y => simp [soM] at h'
  | some x => cases y with
    | none => simp [soM] at h'
    | some y =>
      obtain ⟨xs, i⟩ := x
      obtain ⟨xs', i'⟩ := y
      have h' := arrM_inj h'
      dsimp only at h'
      subst h'
      simp_all [soV]
      omega
theorem siL_eq (xs : List Int) (i j : Nat) (h : j < xs.length ∧ xs.length ≤ big) (K : XK) : siL [.one (.ref 0 (.tail 0) none), .one (.int .i64 0), .one (.int .i64 xs.length), .one (.int .i64 i), .one (.int .i64 j)] [(0, .arr I xs false)] K =
    K.exit 2 [.one (.ref 0 (.tail 0) none), .one (.int .i64 0), .one (.int .i64 xs.length), .one (.int .i64 i)] [(0, .arr I (bub j xs) false)] :=
  loopP_eq siL_inj (x := ⟨xs, i, j⟩) h K
theorem soL_ok : LoopOK (rc [(72, pLess)] [(1, soL), (4, siL)] fx66) (loopB 1 (codeOf fx66)) soL := by
  refine loopP_ok soL_inj (fun x => match x with | some x => x.xs.length - x.i | none => 0) ?_
  rintro (_ | ⟨xs, i⟩) K r N hb hN hf
  · conv => lhs; whnf
    exact hf
  have hb : xs.length ≤ big := hb ⟨xs, i⟩ rfl
  dsimp only at hN hf
  rcases Nat.lt_or_ge i xs.length with h | h
  · have e1 := lt_t h
    conv => lhs; whnf
    rw [e1]
    conv => lhs; whnf
    refine (siL_eq xs i i ⟨h, hb⟩ _).trans ?_
    conv => lhs; whnf
    rw [succ_w (big_lt h hb)]
    have hl := bub_len i xs
    have h3 := hN (some ⟨bub i xs, i + 1⟩) (by rintro y ⟨⟩; dsimp only; rw [hl]; exact hb) (by dsimp only; rw [hl]; omega)
    dsimp only [soV, soM] at h3
    rw [hl] at h3
    obtain ⟨n, hn⟩ : ∃ n, xs.length - i = n + 1 := ⟨xs.length - i - 1, by omega⟩
    rw [hn, insN, if_pos h] at hf
    rw [show xs.length - (i + 1) = n by omega] at h3
    exact h3.trans hf
  · rw [show xs.length - i = 0 by omega, insN] at hf
    conv => lhs; whnf
    rw [lt_f h]
    conv => lhs; whnf
    exact hf
theorem soL_eq (xs : List Int) (i : Nat) (h : xs.length ≤ big) (K : XK) : soL [.one (.ref 0 (.tail 0) none), .one (.int .i64 0), .one (.int .i64 xs.length), .one (.int .i64 i)] [(0, .arr I xs false)] K =
    K.exit 0 [] [(0, .arr I (insN xs.length (xs.length - i) xs i) false)] :=
  loopP_eq soL_inj (x := some ⟨xs, i⟩) (by rintro y ⟨⟩; exact h) K
theorem soL_nil (K : XK) : soL [.one (.sl I [] (some true) (some 0)), .one (.int .i64 0), .one (.int .i64 0), .one (.int .i64 1)] [] K = K.exit 0 [] [] :=
  loopP_eq soL_inj (x := none) (by rintro y ⟨⟩) K
noncomputable def c66 := body (rc [(72, pLess)] [(1, soL), (4, siL)] fx66) (codeOf fx66)
theorem c66_ok : COK Try.prog 66 c66 := fn_ok (x := fx66) (H := [(72, pLess)]) (L := [(1, soL), (4, siL)]) rfl rfl ⟨less_ok, trivial⟩ (by kernel_rfl) ⟨soL_ok, siL_ok, trivial⟩
end Go.Ev.Tab
