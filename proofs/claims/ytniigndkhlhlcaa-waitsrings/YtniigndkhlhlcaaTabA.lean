/- Tables of the program, printed by a tool of mine (GenTab.lean): what the evaluator asks of types and functions; each is held against the program by Lean's kernel. -/
import Derived.Test.YtniigndkhlhlcaaProg
import Derived.Test.YtniigndkhlhlcaaEvG
import Derived.KernelRfl
set_option linter.all false
set_option maxRecDepth 100000
namespace Go.Ev.Tab
open Go Go.Proofs Go.Ev.X

noncomputable def ti0 : TI := { und := some (.tuple #[]), info := some (1), zs := true, size := 1, bytes := 0, agg := false, nil := .nilsl, elem := none, zero := none, eq := none, key := none, arr := none }
noncomputable def ti1 : TI := { und := some (.func #[] #[] false), info := some (1), zs := true, size := 1, bytes := 8, agg := false, nil := .nilsl, elem := none, zero := some ([.nilfn]), eq := none, key := none, arr := none }
noncomputable def ti2 : TI := { und := some (.int .i64), info := some (1), zs := true, size := 1, bytes := 8, agg := false, nil := .nilsl, elem := none, zero := some ([.int .i64 0]), eq := some ((.int .i64)), key := none, arr := none }
noncomputable def ti3 : TI := { und := some (.int .i64), info := some (1), zs := true, size := 1, bytes := 8, agg := false, nil := .nilsl, elem := none, zero := some ([.int .i64 0]), eq := some ((.int .i64)), key := none, arr := none }
noncomputable def ti4 : TI := { und := some (.bool), info := some (1), zs := true, size := 1, bytes := 1, agg := false, nil := .nilsl, elem := none, zero := some ([.bool false]), eq := some (.bool), key := none, arr := none }
noncomputable def ti5 : TI := { und := some (.int .u8), info := some (1), zs := true, size := 1, bytes := 1, agg := false, nil := .nilsl, elem := none, zero := some ([.int .u8 0]), eq := some ((.int .u8)), key := none, arr := none }
noncomputable def ti6 : TI := { und := some (.int .u8), info := some (1), zs := true, size := 1, bytes := 1, agg := false, nil := .nilsl, elem := none, zero := some ([.int .u8 0]), eq := some ((.int .u8)), key := none, arr := none }
noncomputable def ti7 : TI := { und := some (.struct #[{ name := "x", type := 2, offset := 0, byteOffset := 0, embedded := false, tag := "", pkgPath := "runtime" }, { name := "y", type := 3, offset := 1, byteOffset := 8, embedded := false, tag := "", pkgPath := "runtime" }, { name := "signed", type := 4, offset := 2, byteOffset := 16, embedded := false, tag := "", pkgPath := "runtime" }, { name := "code", type := 6, offset := 3, byteOffset := 17, embedded := false, tag := "", pkgPath := "runtime" }]), info := some (4), zs := true, size := 4, bytes := 24, agg := true, nil := .nilsl, elem := none, zero := some ([.int .i64 0, .int .i64 0, .bool false, .int .u8 0]), eq := some ((.pair (.int .i64) (.pair (.int .i64) (.pair .bool (.int .u8))))), key := none, arr := none }
noncomputable def ti8 : TI := { und := some (.struct #[{ name := "x", type := 2, offset := 0, byteOffset := 0, embedded := false, tag := "", pkgPath := "runtime" }, { name := "y", type := 3, offset := 1, byteOffset := 8, embedded := false, tag := "", pkgPath := "runtime" }, { name := "signed", type := 4, offset := 2, byteOffset := 16, embedded := false, tag := "", pkgPath := "runtime" }, { name := "code", type := 6, offset := 3, byteOffset := 17, embedded := false, tag := "", pkgPath := "runtime" }]), info := some (4), zs := true, size := 4, bytes := 24, agg := true, nil := .nilsl, elem := none, zero := some ([.int .i64 0, .int .i64 0, .bool false, .int .u8 0]), eq := some ((.pair (.int .i64) (.pair (.int .i64) (.pair .bool (.int .u8))))), key := none, arr := none }
noncomputable def ti9 : TI := { und := some (.string), info := some (1), zs := true, size := 1, bytes := 16, agg := false, nil := .nilsl, elem := none, zero := some ([.str []]), eq := some (.str), key := none, arr := none }
noncomputable def ti10 : TI := { und := some (.string), info := some (1), zs := true, size := 1, bytes := 16, agg := false, nil := .nilsl, elem := none, zero := some ([.str []]), eq := some (.str), key := none, arr := none }
noncomputable def ti11 : TI := { und := some (.string), info := some (1), zs := true, size := 1, bytes := 16, agg := false, nil := .nilsl, elem := none, zero := some ([.str []]), eq := some (.str), key := none, arr := none }
noncomputable def ti12 : TI := { und := some (.int .u64), info := some (1), zs := true, size := 1, bytes := 8, agg := false, nil := .nilsl, elem := none, zero := some ([.int .u64 0]), eq := some ((.int .u64)), key := none, arr := none }
noncomputable def ti13 : TI := { und := some (.struct #[{ name := "msg", type := 9, offset := 0, byteOffset := 0, embedded := false, tag := "", pkgPath := "runtime" }, { name := "addr", type := 12, offset := 1, byteOffset := 16, embedded := false, tag := "", pkgPath := "runtime" }]), info := some (2), zs := true, size := 2, bytes := 24, agg := true, nil := .nilsl, elem := none, zero := some ([.str [], .int .u64 0]), eq := none, key := none, arr := none }
noncomputable def ti14 : TI := { und := some (.struct #[{ name := "msg", type := 9, offset := 0, byteOffset := 0, embedded := false, tag := "", pkgPath := "runtime" }, { name := "addr", type := 12, offset := 1, byteOffset := 16, embedded := false, tag := "", pkgPath := "runtime" }]), info := some (2), zs := true, size := 2, bytes := 24, agg := true, nil := .nilsl, elem := none, zero := some ([.str [], .int .u64 0]), eq := none, key := none, arr := none }
noncomputable def ti15 : TI := { und := some (.pointer 109), info := some (1), zs := true, size := 1, bytes := 8, agg := false, nil := .nilsl, elem := none, zero := some ([.nilptr]), eq := none, key := none, arr := none }
noncomputable def ti16 : TI := { und := some (.pointer 112), info := some (1), zs := true, size := 1, bytes := 8, agg := false, nil := .nilsl, elem := none, zero := some ([.nilptr]), eq := none, key := none, arr := none }
noncomputable def ti17 : TI := { und := some (.pointer 120), info := some (1), zs := true, size := 1, bytes := 8, agg := false, nil := .nilsl, elem := none, zero := some ([.nilptr]), eq := none, key := none, arr := none }
noncomputable def ti18 : TI := { und := some (.struct #[{ name := "typ", type := 17, offset := 0, byteOffset := 0, embedded := false, tag := "", pkgPath := "internal/runtime/maps" }]), info := some (1), zs := true, size := 1, bytes := 8, agg := true, nil := .nilsl, elem := none, zero := some ([.nilptr]), eq := none, key := none, arr := none }
noncomputable def ti19 : TI := { und := some (.struct #[{ name := "typ", type := 17, offset := 0, byteOffset := 0, embedded := false, tag := "", pkgPath := "internal/runtime/maps" }]), info := some (1), zs := true, size := 1, bytes := 8, agg := true, nil := .nilsl, elem := none, zero := some ([.nilptr]), eq := none, key := none, arr := none }
noncomputable def ti20 : TI := { und := (Try.prog.underlying 20), info := some (1), zs := true, size := 1, bytes := 16, agg := false, nil := .nilsl, elem := none, zero := none, eq := none, key := none, arr := none }
noncomputable def ti21 : TI := { und := some (.int .i32), info := some (1), zs := true, size := 1, bytes := 4, agg := false, nil := .nilsl, elem := none, zero := some ([.int .i32 0]), eq := some ((.int .i32)), key := none, arr := none }
noncomputable def ti22 : TI := { und := some (.func #[] #[4] false), info := some (1), zs := true, size := 1, bytes := 8, agg := false, nil := .nilsl, elem := none, zero := some ([.nilfn]), eq := none, key := none, arr := none }
noncomputable def ti23 : TI := { und := some (.slice 29), info := some (1), zs := true, size := 1, bytes := 24, agg := false, nil := .sl (.pair (.int .i64) (.pair (.pair (.int .i64) (.int .i64)) (.int .i64))) [] (some true) (some 0), elem := some ((.pair (.int .i64) (.pair (.pair (.int .i64) (.int .i64)) (.int .i64)))), zero := some ([.sl (.pair (.int .i64) (.pair (.pair (.int .i64) (.int .i64)) (.int .i64))) [] (some true) (some 0)]), eq := none, key := none, arr := none }
noncomputable def ti24 : TI := { und := some (.struct #[{ name := "Held", type := 23, offset := 0, byteOffset := 0, embedded := false, tag := "", pkgPath := "" }, { name := "Waiting", type := 23, offset := 1, byteOffset := 24, embedded := false, tag := "", pkgPath := "" }]), info := some (2), zs := true, size := 2, bytes := 48, agg := true, nil := .nilsl, elem := none, zero := some ([.sl (.pair (.int .i64) (.pair (.pair (.int .i64) (.int .i64)) (.int .i64))) [] (some true) (some 0), .sl (.pair (.int .i64) (.pair (.pair (.int .i64) (.int .i64)) (.int .i64))) [] (some true) (some 0)]), eq := none, key := none, arr := none }
noncomputable def ti25 : TI := { und := some (.struct #[{ name := "Held", type := 23, offset := 0, byteOffset := 0, embedded := false, tag := "", pkgPath := "" }, { name := "Waiting", type := 23, offset := 1, byteOffset := 24, embedded := false, tag := "", pkgPath := "" }]), info := some (2), zs := true, size := 2, bytes := 48, agg := true, nil := .nilsl, elem := none, zero := some ([.sl (.pair (.int .i64) (.pair (.pair (.int .i64) (.int .i64)) (.int .i64))) [] (some true) (some 0), .sl (.pair (.int .i64) (.pair (.pair (.int .i64) (.int .i64)) (.int .i64))) [] (some true) (some 0)]), eq := none, key := none, arr := none }
noncomputable def ti26 : TI := { und := some (.struct #[{ name := "Page", type := 3, offset := 0, byteOffset := 0, embedded := false, tag := "", pkgPath := "" }, { name := "Slot", type := 3, offset := 1, byteOffset := 8, embedded := false, tag := "", pkgPath := "" }]), info := some (2), zs := true, size := 2, bytes := 16, agg := true, nil := .nilsl, elem := none, zero := some ([.int .i64 0, .int .i64 0]), eq := some ((.pair (.int .i64) (.int .i64))), key := none, arr := none }
noncomputable def ti27 : TI := { und := some (.struct #[{ name := "Page", type := 3, offset := 0, byteOffset := 0, embedded := false, tag := "", pkgPath := "" }, { name := "Slot", type := 3, offset := 1, byteOffset := 8, embedded := false, tag := "", pkgPath := "" }]), info := some (2), zs := true, size := 2, bytes := 16, agg := true, nil := .nilsl, elem := none, zero := some ([.int .i64 0, .int .i64 0]), eq := some ((.pair (.int .i64) (.int .i64))), key := none, arr := none }
noncomputable def ti28 : TI := { und := some (.struct #[{ name := "Tx", type := 3, offset := 0, byteOffset := 0, embedded := false, tag := "", pkgPath := "" }, { name := "Lock", type := 27, offset := 1, byteOffset := 8, embedded := false, tag := "", pkgPath := "" }, { name := "Mode", type := 3, offset := 3, byteOffset := 24, embedded := false, tag := "", pkgPath := "" }]), info := some (4), zs := true, size := 4, bytes := 32, agg := true, nil := .nilsl, elem := none, zero := some ([.int .i64 0, .int .i64 0, .int .i64 0, .int .i64 0]), eq := some ((.pair (.int .i64) (.pair (.pair (.int .i64) (.int .i64)) (.int .i64)))), key := none, arr := none }
noncomputable def ti29 : TI := { und := some (.struct #[{ name := "Tx", type := 3, offset := 0, byteOffset := 0, embedded := false, tag := "", pkgPath := "" }, { name := "Lock", type := 27, offset := 1, byteOffset := 8, embedded := false, tag := "", pkgPath := "" }, { name := "Mode", type := 3, offset := 3, byteOffset := 24, embedded := false, tag := "", pkgPath := "" }]), info := some (4), zs := true, size := 4, bytes := 32, agg := true, nil := .nilsl, elem := none, zero := some ([.int .i64 0, .int .i64 0, .int .i64 0, .int .i64 0]), eq := some ((.pair (.int .i64) (.pair (.pair (.int .i64) (.int .i64)) (.int .i64)))), key := none, arr := none }
noncomputable def ti30 : TI := { und := some (.slice 3), info := some (1), zs := true, size := 1, bytes := 24, agg := false, nil := .sl (.int .i64) [] (some true) (some 0), elem := some ((.int .i64)), zero := some ([.sl (.int .i64) [] (some true) (some 0)]), eq := none, key := none, arr := none }
noncomputable def ti31 : TI := { und := some (.func #[25, 3] #[30] false), info := some (1), zs := true, size := 1, bytes := 8, agg := false, nil := .nilsl, elem := none, zero := some ([.nilfn]), eq := none, key := none, arr := none }
noncomputable def ti32 : TI := { und := some (.func #[5, 4, 5] #[4] false), info := some (1), zs := true, size := 1, bytes := 8, agg := false, nil := .nilsl, elem := none, zero := some ([.nilfn]), eq := none, key := none, arr := none }
noncomputable def ti33 : TI := { und := some (.slice 5), info := some (1), zs := true, size := 1, bytes := 24, agg := false, nil := .sl (.int .u8) [] (some true) (some 0), elem := some ((.int .u8)), zero := some ([.sl (.int .u8) [] (some true) (some 0)]), eq := none, key := none, arr := none }
noncomputable def ti34 : TI := { und := some (.pointer 54), info := some (1), zs := true, size := 1, bytes := 8, agg := false, nil := .nilsl, elem := none, zero := some ([.nilptr]), eq := none, key := none, arr := none }
noncomputable def ti35 : TI := { und := some (.func #[33, 3] #[34] false), info := some (1), zs := true, size := 1, bytes := 8, agg := false, nil := .nilsl, elem := none, zero := some ([.nilfn]), eq := none, key := none, arr := none }
noncomputable def ti36 : TI := { und := some (.func #[] #[3] false), info := some (1), zs := true, size := 1, bytes := 8, agg := false, nil := .nilsl, elem := none, zero := some ([.nilfn]), eq := none, key := none, arr := none }
noncomputable def ti37 : TI := { und := some (.func #[] #[29] false), info := some (1), zs := true, size := 1, bytes := 8, agg := false, nil := .nilsl, elem := none, zero := some ([.nilfn]), eq := none, key := none, arr := none }
noncomputable def ti38 : TI := { und := some (.func #[3] #[3] false), info := some (1), zs := true, size := 1, bytes := 8, agg := false, nil := .nilsl, elem := none, zero := some ([.nilfn]), eq := none, key := none, arr := none }
noncomputable def ti39 : TI := { und := some (.func #[25, 3] #[25] false), info := some (1), zs := true, size := 1, bytes := 8, agg := false, nil := .nilsl, elem := none, zero := some ([.nilfn]), eq := none, key := none, arr := none }
noncomputable def ti40 : TI := { und := some (.func #[25, 3, 27] #[25] false), info := some (1), zs := true, size := 1, bytes := 8, agg := false, nil := .nilsl, elem := none, zero := some ([.nilfn]), eq := none, key := none, arr := none }
noncomputable def ti41 : TI := { und := some (.int .i64), info := some (1), zs := true, size := 1, bytes := 8, agg := false, nil := .nilsl, elem := none, zero := some ([.int .i64 0]), eq := some ((.int .i64)), key := none, arr := none }
noncomputable def ti42 : TI := { und := some (.tuple #[25, 4, 41]), info := some (1), zs := true, size := 1, bytes := 0, agg := false, nil := .nilsl, elem := none, zero := none, eq := none, key := none, arr := none }
noncomputable def ti43 : TI := { und := some (.func #[25, 29] #[25, 4, 41] false), info := some (1), zs := true, size := 1, bytes := 8, agg := false, nil := .nilsl, elem := none, zero := some ([.nilfn]), eq := none, key := none, arr := none }
noncomputable def ti44 : TI := { und := some (.tuple #[30, 41]), info := some (1), zs := true, size := 1, bytes := 0, agg := false, nil := .nilsl, elem := none, zero := none, eq := none, key := none, arr := none }
noncomputable def ti45 : TI := { und := some (.func #[25, 29] #[30, 41] false), info := some (1), zs := true, size := 1, bytes := 8, agg := false, nil := .nilsl, elem := none, zero := some ([.nilfn]), eq := none, key := none, arr := none }
noncomputable def ti46 : TI := { und := some (.func #[30, 30] #[4] false), info := some (1), zs := true, size := 1, bytes := 8, agg := false, nil := .nilsl, elem := none, zero := some ([.nilfn]), eq := none, key := none, arr := none }
noncomputable def ti47 : TI := { und := some (.func #[25] #[4] false), info := some (1), zs := true, size := 1, bytes := 8, agg := false, nil := .nilsl, elem := none, zero := some ([.nilfn]), eq := none, key := none, arr := none }
noncomputable def ti48 : TI := { und := some (.func #[33] #[4] false), info := some (1), zs := true, size := 1, bytes := 8, agg := false, nil := .nilsl, elem := none, zero := some ([.nilfn]), eq := none, key := none, arr := none }
noncomputable def ti49 : TI := { und := some (.map 3 4), info := some (1), zs := true, size := 1, bytes := 8, agg := false, nil := .nilsl, elem := none, zero := some ([.nilmap]), eq := none, key := some (((.int .i64), .bool)), arr := none }
noncomputable def ti50 : TI := { und := some (.slice 30), info := some (1), zs := true, size := 1, bytes := 24, agg := false, nil := .sl (.sl (.int .i64)) [] (some true) (some 0), elem := some ((.sl (.int .i64))), zero := some ([.sl (.sl (.int .i64)) [] (some true) (some 0)]), eq := none, key := none, arr := none }
noncomputable def ti51 : TI := { und := some (.func #[30, 3] #[4] false), info := some (1), zs := true, size := 1, bytes := 8, agg := false, nil := .nilsl, elem := none, zero := some ([.nilfn]), eq := none, key := none, arr := none }
noncomputable def ti52 : TI := { und := some (.func #[30] #[30] false), info := some (1), zs := true, size := 1, bytes := 8, agg := false, nil := .nilsl, elem := none, zero := some ([.nilfn]), eq := none, key := none, arr := none }
noncomputable def ti53 : TI := { und := some (.struct #[{ name := "l", type := 33, offset := 0, byteOffset := 0, embedded := false, tag := "", pkgPath := "pagemend/pagemenddraw" }, { name := "at", type := 3, offset := 1, byteOffset := 24, embedded := false, tag := "", pkgPath := "pagemend/pagemenddraw" }]), info := some (2), zs := true, size := 2, bytes := 32, agg := true, nil := .nilsl, elem := none, zero := some ([.sl (.int .u8) [] (some true) (some 0), .int .i64 0]), eq := none, key := none, arr := none }
noncomputable def ti54 : TI := { und := some (.struct #[{ name := "l", type := 33, offset := 0, byteOffset := 0, embedded := false, tag := "", pkgPath := "pagemend/pagemenddraw" }, { name := "at", type := 3, offset := 1, byteOffset := 24, embedded := false, tag := "", pkgPath := "pagemend/pagemenddraw" }]), info := some (2), zs := true, size := 2, bytes := 32, agg := true, nil := .nilsl, elem := none, zero := some ([.sl (.int .u8) [] (some true) (some 0), .int .i64 0]), eq := none, key := none, arr := none }
noncomputable def ti55 : TI := { und := some (.func #[25, 56, 56] #[25] false), info := some (1), zs := true, size := 1, bytes := 8, agg := false, nil := .nilsl, elem := none, zero := some ([.nilfn]), eq := none, key := none, arr := none }
noncomputable def ti56 : TI := { und := some (.func #[29] #[4] false), info := some (1), zs := true, size := 1, bytes := 8, agg := false, nil := .nilsl, elem := none, zero := some ([.nilfn]), eq := none, key := none, arr := none }
noncomputable def ti57 : TI := { und := some (.tuple #[29, 4]), info := some (1), zs := true, size := 1, bytes := 0, agg := false, nil := .nilsl, elem := none, zero := none, eq := none, key := none, arr := none }
noncomputable def ti58 : TI := { und := some (.func #[25, 3] #[29, 4] false), info := some (1), zs := true, size := 1, bytes := 8, agg := false, nil := .nilsl, elem := none, zero := some ([.nilfn]), eq := none, key := none, arr := none }
noncomputable def ti59 : TI := { und := some (.func #[25, 3, 27] #[3] false), info := some (1), zs := true, size := 1, bytes := 8, agg := false, nil := .nilsl, elem := none, zero := some ([.nilfn]), eq := none, key := none, arr := none }
noncomputable def ti60 : TI := { und := some (.func #[25] #[25] false), info := some (1), zs := true, size := 1, bytes := 8, agg := false, nil := .nilsl, elem := none, zero := some ([.nilfn]), eq := none, key := none, arr := none }
noncomputable def ti61 : TI := { und := some (.func #[23, 3, 23] #[23] true), info := some (1), zs := true, size := 1, bytes := 8, agg := false, nil := .nilsl, elem := none, zero := some ([.nilfn]), eq := none, key := none, arr := none }
noncomputable def ti62 : TI := { und := some (.func #[25, 29] #[3] false), info := some (1), zs := true, size := 1, bytes := 8, agg := false, nil := .nilsl, elem := none, zero := some ([.nilfn]), eq := none, key := none, arr := none }
noncomputable def ti63 : TI := { und := some (.func #[29, 29] #[4] false), info := some (1), zs := true, size := 1, bytes := 8, agg := false, nil := .nilsl, elem := none, zero := some ([.nilfn]), eq := none, key := none, arr := none }
noncomputable def ti64 : TI := { und := some (.func #[29, 29] #[3] false), info := some (1), zs := true, size := 1, bytes := 8, agg := false, nil := .nilsl, elem := none, zero := some ([.nilfn]), eq := none, key := none, arr := none }
noncomputable def ti65 : TI := { und := some (.func #[23, 56] #[4] false), info := some (1), zs := true, size := 1, bytes := 8, agg := false, nil := .nilsl, elem := none, zero := some ([.nilfn]), eq := none, key := none, arr := none }
noncomputable def ti66 : TI := { und := some (.func #[23, 56] #[3] false), info := some (1), zs := true, size := 1, bytes := 8, agg := false, nil := .nilsl, elem := none, zero := some ([.nilfn]), eq := none, key := none, arr := none }
noncomputable def ti67 : TI := { und := some (.slice 23), info := some (1), zs := true, size := 1, bytes := 24, agg := false, nil := .sl (.sl (.pair (.int .i64) (.pair (.pair (.int .i64) (.int .i64)) (.int .i64)))) [] (some true) (some 0), elem := some ((.sl (.pair (.int .i64) (.pair (.pair (.int .i64) (.int .i64)) (.int .i64))))), zero := some ([.sl (.sl (.pair (.int .i64) (.pair (.pair (.int .i64) (.int .i64)) (.int .i64)))) [] (some true) (some 0)]), eq := none, key := none, arr := none }
noncomputable def ti68 : TI := { und := some (.func #[30] #[] false), info := some (1), zs := true, size := 1, bytes := 8, agg := false, nil := .nilsl, elem := none, zero := some ([.nilfn]), eq := none, key := none, arr := none }
noncomputable def ti69 : TI := { und := some (.func #[30, 3] #[3] false), info := some (1), zs := true, size := 1, bytes := 8, agg := false, nil := .nilsl, elem := none, zero := some ([.nilfn]), eq := none, key := none, arr := none }
noncomputable def ti70 : TI := { und := some (.func #[23, 56] #[23] false), info := some (1), zs := true, size := 1, bytes := 8, agg := false, nil := .nilsl, elem := none, zero := some ([.nilfn]), eq := none, key := none, arr := none }
noncomputable def ti71 : TI := { und := some (.tuple #[3, 4]), info := some (1), zs := true, size := 1, bytes := 0, agg := false, nil := .nilsl, elem := none, zero := none, eq := none, key := none, arr := none }
noncomputable def ti72 : TI := { und := some (.func #[23, 3, 27] #[3, 4] false), info := some (1), zs := true, size := 1, bytes := 8, agg := false, nil := .nilsl, elem := none, zero := some ([.nilfn]), eq := none, key := none, arr := none }
noncomputable def ti73 : TI := { und := some (.func #[23] #[23] false), info := some (1), zs := true, size := 1, bytes := 8, agg := false, nil := .nilsl, elem := none, zero := some ([.nilfn]), eq := none, key := none, arr := none }
noncomputable def ti74 : TI := { und := some (.func #[23, 23] #[4] false), info := some (1), zs := true, size := 1, bytes := 8, agg := false, nil := .nilsl, elem := none, zero := some ([.nilfn]), eq := none, key := none, arr := none }
noncomputable def ti75 : TI := { und := some (.func #[23, 3] #[] false), info := some (1), zs := true, size := 1, bytes := 8, agg := false, nil := .nilsl, elem := none, zero := some ([.nilfn]), eq := none, key := none, arr := none }
noncomputable def ti76 : TI := { und := some (.func #[25, 3] #[4] false), info := some (1), zs := true, size := 1, bytes := 8, agg := false, nil := .nilsl, elem := none, zero := some ([.nilfn]), eq := none, key := none, arr := none }
noncomputable def ti77 : TI := { und := some (.func #[23, 3, 3] #[23] false), info := some (1), zs := true, size := 1, bytes := 8, agg := false, nil := .nilsl, elem := none, zero := some ([.nilfn]), eq := none, key := none, arr := none }
noncomputable def ti78 : TI := { und := some (.func #[30] #[3] true), info := some (1), zs := true, size := 1, bytes := 8, agg := false, nil := .nilsl, elem := none, zero := some ([.nilfn]), eq := none, key := none, arr := none }
noncomputable def ti79 : TI := { und := some (.func #[3, 3] #[3] false), info := some (1), zs := true, size := 1, bytes := 8, agg := false, nil := .nilsl, elem := none, zero := some ([.nilfn]), eq := none, key := none, arr := none }
noncomputable def ti80 : TI := { und := some (.func #[30, 3, 3, 3] #[] false), info := some (1), zs := true, size := 1, bytes := 8, agg := false, nil := .nilsl, elem := none, zero := some ([.nilfn]), eq := none, key := none, arr := none }
noncomputable def ti81 : TI := { und := some (.func #[82] #[3] false), info := some (1), zs := true, size := 1, bytes := 8, agg := false, nil := .nilsl, elem := none, zero := some ([.nilfn]), eq := none, key := none, arr := none }
noncomputable def ti82 : TI := { und := some (.int .u64), info := some (1), zs := true, size := 1, bytes := 8, agg := false, nil := .nilsl, elem := none, zero := some ([.int .u64 0]), eq := some ((.int .u64)), key := none, arr := none }
noncomputable def ti83 : TI := { und := some (.func #[23, 29, 64] #[3, 4] false), info := some (1), zs := true, size := 1, bytes := 8, agg := false, nil := .nilsl, elem := none, zero := some ([.nilfn]), eq := none, key := none, arr := none }
noncomputable def ti84 : TI := { und := some (.func #[3] #[4] false), info := some (1), zs := true, size := 1, bytes := 8, agg := false, nil := .nilsl, elem := none, zero := some ([.nilfn]), eq := none, key := none, arr := none }
noncomputable def ti85 : TI := { und := some (.func #[30, 3, 3] #[] false), info := some (1), zs := true, size := 1, bytes := 8, agg := false, nil := .nilsl, elem := none, zero := some ([.nilfn]), eq := none, key := none, arr := none }
noncomputable def ti86 : TI := { und := some (.int .i64), info := some (1), zs := true, size := 1, bytes := 8, agg := false, nil := .nilsl, elem := none, zero := some ([.int .i64 0]), eq := some ((.int .i64)), key := none, arr := none }
noncomputable def ti87 : TI := { und := some (.tuple #[3, 86]), info := some (1), zs := true, size := 1, bytes := 0, agg := false, nil := .nilsl, elem := none, zero := none, eq := none, key := none, arr := none }
noncomputable def ti88 : TI := { und := some (.func #[30, 3, 3] #[3, 86] false), info := some (1), zs := true, size := 1, bytes := 8, agg := false, nil := .nilsl, elem := none, zero := some ([.nilfn]), eq := none, key := none, arr := none }
noncomputable def ti89 : TI := { und := some (.func #[30, 3, 3] #[4] false), info := some (1), zs := true, size := 1, bytes := 8, agg := false, nil := .nilsl, elem := none, zero := some ([.nilfn]), eq := none, key := none, arr := none }
noncomputable def ti90 : TI := { und := some (.func #[3, 3] #[4] false), info := some (1), zs := true, size := 1, bytes := 8, agg := false, nil := .nilsl, elem := none, zero := some ([.nilfn]), eq := none, key := none, arr := none }
noncomputable def ti91 : TI := { und := some (.func #[30, 3, 3, 3] #[3] false), info := some (1), zs := true, size := 1, bytes := 8, agg := false, nil := .nilsl, elem := none, zero := some ([.nilfn]), eq := none, key := none, arr := none }
noncomputable def ti92 : TI := { und := some (.func #[30, 3, 3, 3] #[3, 4] false), info := some (1), zs := true, size := 1, bytes := 8, agg := false, nil := .nilsl, elem := none, zero := some ([.nilfn]), eq := none, key := none, arr := none }
noncomputable def ti93 : TI := { und := some (.func #[94] #[3] false), info := some (1), zs := true, size := 1, bytes := 8, agg := false, nil := .nilsl, elem := none, zero := some ([.nilfn]), eq := none, key := none, arr := none }
noncomputable def ti94 : TI := { und := some (.int .u32), info := some (1), zs := true, size := 1, bytes := 4, agg := false, nil := .nilsl, elem := none, zero := some ([.int .u32 0]), eq := some ((.int .u32)), key := none, arr := none }
noncomputable def ti95 : TI := { und := some (.func #[96] #[3] false), info := some (1), zs := true, size := 1, bytes := 8, agg := false, nil := .nilsl, elem := none, zero := some ([.nilfn]), eq := none, key := none, arr := none }
noncomputable def ti96 : TI := { und := some (.int .u64), info := some (1), zs := true, size := 1, bytes := 8, agg := false, nil := .nilsl, elem := none, zero := some ([.int .u64 0]), eq := some ((.int .u64)), key := none, arr := none }
noncomputable def ti97 : TI := { und := some (.func #[23] #[] false), info := some (1), zs := true, size := 1, bytes := 8, agg := false, nil := .nilsl, elem := none, zero := some ([.nilfn]), eq := none, key := none, arr := none }
noncomputable def ti98 : TI := { und := some (.int .u64), info := some (1), zs := true, size := 1, bytes := 8, agg := false, nil := .nilsl, elem := none, zero := some ([.int .u64 0]), eq := some ((.int .u64)), key := none, arr := none }
noncomputable def ti99 : TI := { und := some (.func #[3] #[82] false), info := some (1), zs := true, size := 1, bytes := 8, agg := false, nil := .nilsl, elem := none, zero := some ([.nilfn]), eq := none, key := none, arr := none }
noncomputable def ti100 : TI := { und := some (.func #[] #[96] false), info := some (1), zs := true, size := 1, bytes := 8, agg := false, nil := .nilsl, elem := none, zero := some ([.nilfn]), eq := none, key := none, arr := none }
noncomputable def ti101 : TI := { und := some (.func #[30, 3, 102] #[3] false), info := some (1), zs := true, size := 1, bytes := 8, agg := false, nil := .nilsl, elem := none, zero := some ([.nilfn]), eq := none, key := none, arr := none }
noncomputable def ti102 : TI := { und := some (.pointer 3), info := some (1), zs := true, size := 1, bytes := 8, agg := false, nil := .nilsl, elem := none, zero := some ([.nilptr]), eq := none, key := none, arr := none }
noncomputable def ti103 : TI := { und := some (.func #[30, 3, 3, 3, 102] #[3] false), info := some (1), zs := true, size := 1, bytes := 8, agg := false, nil := .nilsl, elem := none, zero := some ([.nilfn]), eq := none, key := none, arr := none }
noncomputable def ti104 : TI := { und := some (.pointer 98), info := some (1), zs := true, size := 1, bytes := 8, agg := false, nil := .nilsl, elem := none, zero := some ([.nilptr]), eq := none, key := none, arr := none }
noncomputable def ti105 : TI := { und := some (.tuple #[3, 3]), info := some (1), zs := true, size := 1, bytes := 0, agg := false, nil := .nilsl, elem := none, zero := none, eq := none, key := none, arr := none }
noncomputable def ti106 : TI := { und := some (.func #[30, 3, 3, 102] #[3, 3] false), info := some (1), zs := true, size := 1, bytes := 8, agg := false, nil := .nilsl, elem := none, zero := some ([.nilfn]), eq := none, key := none, arr := none }
noncomputable def ti107 : TI := { und := some (.func #[] #[9] false), info := some (1), zs := true, size := 1, bytes := 8, agg := false, nil := .nilsl, elem := none, zero := some ([.nilfn]), eq := none, key := none, arr := none }
noncomputable def ti108 : TI := { und := some (.struct #[{ name := "_interface", type := 17, offset := 0, byteOffset := 0, embedded := false, tag := "", pkgPath := "runtime" }, { name := "concrete", type := 17, offset := 1, byteOffset := 8, embedded := false, tag := "", pkgPath := "runtime" }, { name := "asserted", type := 17, offset := 2, byteOffset := 16, embedded := false, tag := "", pkgPath := "runtime" }, { name := "missingMethod", type := 9, offset := 3, byteOffset := 24, embedded := false, tag := "", pkgPath := "runtime" }]), info := some (4), zs := true, size := 4, bytes := 40, agg := true, nil := .nilsl, elem := none, zero := some ([.nilptr, .nilptr, .nilptr, .str []]), eq := none, key := none, arr := none }
noncomputable def ti109 : TI := { und := some (.struct #[{ name := "_interface", type := 17, offset := 0, byteOffset := 0, embedded := false, tag := "", pkgPath := "runtime" }, { name := "concrete", type := 17, offset := 1, byteOffset := 8, embedded := false, tag := "", pkgPath := "runtime" }, { name := "asserted", type := 17, offset := 2, byteOffset := 16, embedded := false, tag := "", pkgPath := "runtime" }, { name := "missingMethod", type := 9, offset := 3, byteOffset := 24, embedded := false, tag := "", pkgPath := "runtime" }]), info := some (4), zs := true, size := 4, bytes := 40, agg := true, nil := .nilsl, elem := none, zero := some ([.nilptr, .nilptr, .nilptr, .str []]), eq := none, key := none, arr := none }
noncomputable def ti110 : TI := { und := some (.array 0 16), info := some (0), zs := true, size := 0, bytes := 0, agg := true, nil := .nilsl, elem := none, zero := some ([]), eq := none, key := none, arr := none }
noncomputable def ti111 : TI := { und := some (.struct #[{ name := "_", type := 110, offset := 0, byteOffset := 0, embedded := false, tag := "", pkgPath := "runtime" }]), info := some (0), zs := true, size := 0, bytes := 0, agg := true, nil := .nilsl, elem := none, zero := some ([]), eq := none, key := none, arr := none }
noncomputable def ti112 : TI := { und := some (.struct #[{ name := "_", type := 110, offset := 0, byteOffset := 0, embedded := false, tag := "", pkgPath := "runtime" }]), info := some (0), zs := true, size := 0, bytes := 0, agg := true, nil := .nilsl, elem := none, zero := some ([]), eq := none, key := none, arr := none }
noncomputable def ti113 : TI := { und := some (.int .u8), info := some (1), zs := true, size := 1, bytes := 1, agg := false, nil := .nilsl, elem := none, zero := some ([.int .u8 0]), eq := some ((.int .u8)), key := none, arr := none }
noncomputable def ti114 : TI := { und := some (.int .u8), info := some (1), zs := true, size := 1, bytes := 1, agg := false, nil := .nilsl, elem := none, zero := some ([.int .u8 0]), eq := some ((.int .u8)), key := none, arr := none }
noncomputable def ti115 : TI := { und := some (.func #[121, 121] #[4] false), info := some (1), zs := true, size := 1, bytes := 8, agg := false, nil := .nilsl, elem := none, zero := some ([.nilfn]), eq := none, key := none, arr := none }
noncomputable def ti116 : TI := { und := some (.pointer 5), info := some (1), zs := true, size := 1, bytes := 8, agg := false, nil := .nilsl, elem := none, zero := some ([.nilptr]), eq := none, key := none, arr := none }
noncomputable def ti117 : TI := { und := some (.int .i32), info := some (1), zs := true, size := 1, bytes := 4, agg := false, nil := .nilsl, elem := none, zero := some ([.int .i32 0]), eq := some ((.int .i32)), key := none, arr := none }
noncomputable def ti118 : TI := { und := some (.int .i32), info := some (1), zs := true, size := 1, bytes := 4, agg := false, nil := .nilsl, elem := none, zero := some ([.int .i32 0]), eq := some ((.int .i32)), key := none, arr := none }
noncomputable def ti119 : TI := { und := some (.struct #[{ name := "Size_", type := 12, offset := 0, byteOffset := 0, embedded := false, tag := "", pkgPath := "" }, { name := "PtrBytes", type := 12, offset := 1, byteOffset := 8, embedded := false, tag := "", pkgPath := "" }, { name := "Hash", type := 94, offset := 2, byteOffset := 16, embedded := false, tag := "", pkgPath := "" }, { name := "TFlag", type := 113, offset := 3, byteOffset := 20, embedded := false, tag := "", pkgPath := "" }, { name := "Align_", type := 5, offset := 4, byteOffset := 21, embedded := false, tag := "", pkgPath := "" }, { name := "FieldAlign_", type := 5, offset := 5, byteOffset := 22, embedded := false, tag := "", pkgPath := "" }, { name := "Kind_", type := 114, offset := 6, byteOffset := 23, embedded := false, tag := "", pkgPath := "" }, { name := "Equal", type := 115, offset := 7, byteOffset := 24, embedded := false, tag := "", pkgPath := "" }, { name := "GCData", type := 116, offset := 8, byteOffset := 32, embedded := false, tag := "", pkgPath := "" }, { name := "Str", type := 117, offset := 9, byteOffset := 40, embedded := false, tag := "", pkgPath := "" }, { name := "PtrToThis", type := 118, offset := 10, byteOffset := 44, embedded := false, tag := "", pkgPath := "" }]), info := some (11), zs := true, size := 11, bytes := 48, agg := true, nil := .nilsl, elem := none, zero := some ([.int .u64 0, .int .u64 0, .int .u32 0, .int .u8 0, .int .u8 0, .int .u8 0, .int .u8 0, .nilfn, .nilptr, .int .i32 0, .int .i32 0]), eq := none, key := none, arr := none }
noncomputable def ti120 : TI := { und := some (.struct #[{ name := "Size_", type := 12, offset := 0, byteOffset := 0, embedded := false, tag := "", pkgPath := "" }, { name := "PtrBytes", type := 12, offset := 1, byteOffset := 8, embedded := false, tag := "", pkgPath := "" }, { name := "Hash", type := 94, offset := 2, byteOffset := 16, embedded := false, tag := "", pkgPath := "" }, { name := "TFlag", type := 113, offset := 3, byteOffset := 20, embedded := false, tag := "", pkgPath := "" }, { name := "Align_", type := 5, offset := 4, byteOffset := 21, embedded := false, tag := "", pkgPath := "" }, { name := "FieldAlign_", type := 5, offset := 5, byteOffset := 22, embedded := false, tag := "", pkgPath := "" }, { name := "Kind_", type := 114, offset := 6, byteOffset := 23, embedded := false, tag := "", pkgPath := "" }, { name := "Equal", type := 115, offset := 7, byteOffset := 24, embedded := false, tag := "", pkgPath := "" }, { name := "GCData", type := 116, offset := 8, byteOffset := 32, embedded := false, tag := "", pkgPath := "" }, { name := "Str", type := 117, offset := 9, byteOffset := 40, embedded := false, tag := "", pkgPath := "" }, { name := "PtrToThis", type := 118, offset := 10, byteOffset := 44, embedded := false, tag := "", pkgPath := "" }]), info := some (11), zs := true, size := 11, bytes := 48, agg := true, nil := .nilsl, elem := none, zero := some ([.int .u64 0, .int .u64 0, .int .u32 0, .int .u8 0, .int .u8 0, .int .u8 0, .int .u8 0, .nilfn, .nilptr, .int .i32 0, .int .i32 0]), eq := none, key := none, arr := none }
noncomputable def ti121 : TI := { und := (Try.prog.underlying 121), info := some (1), zs := true, size := 1, bytes := 8, agg := false, nil := .nilsl, elem := none, zero := none, eq := none, key := none, arr := none }
noncomputable def types : TT := (.node 61 (.node 30 (.node 15 (.node 7 (.node 3 (.node 1 (.leaf ti0) (.node 2 (.leaf ti1) (.leaf ti2))) (.node 5 (.node 4 (.leaf ti3) (.leaf ti4)) (.node 6 (.leaf ti5) (.leaf ti6)))) (.node 11 (.node 9 (.node 8 (.leaf ti7) (.leaf ti8)) (.node 10 (.leaf ti9) (.leaf ti10))) (.node 13 (.node 12 (.leaf ti11) (.leaf ti12)) (.node 14 (.leaf ti13) (.leaf ti14))))) (.node 22 (.node 18 (.node 16 (.leaf ti15) (.node 17 (.leaf ti16) (.leaf ti17))) (.node 20 (.node 19 (.leaf ti18) (.leaf ti19)) (.node 21 (.leaf ti20) (.leaf ti21)))) (.node 26 (.node 24 (.node 23 (.leaf ti22) (.leaf ti23)) (.node 25 (.leaf ti24) (.leaf ti25))) (.node 28 (.node 27 (.leaf ti26) (.leaf ti27)) (.node 29 (.leaf ti28) (.leaf ti29)))))) (.node 45 (.node 37 (.node 33 (.node 31 (.leaf ti30) (.node 32 (.leaf ti31) (.leaf ti32))) (.node 35 (.node 34 (.leaf ti33) (.leaf ti34)) (.node 36 (.leaf ti35) (.leaf ti36)))) (.node 41 (.node 39 (.node 38 (.leaf ti37) (.leaf ti38)) (.node 40 (.leaf ti39) (.leaf ti40))) (.node 43 (.node 42 (.leaf ti41) (.leaf ti42)) (.node 44 (.leaf ti43) (.leaf ti44))))) (.node 53 (.node 49 (.node 47 (.node 46 (.leaf ti45) (.leaf ti46)) (.node 48 (.leaf ti47) (.leaf ti48))) (.node 51 (.node 50 (.leaf ti49) (.leaf ti50)) (.node 52 (.leaf ti51) (.leaf ti52)))) (.node 57 (.node 55 (.node 54 (.leaf ti53) (.leaf ti54)) (.node 56 (.leaf ti55) (.leaf ti56))) (.node 59 (.node 58 (.leaf ti57) (.leaf ti58)) (.node 60 (.leaf ti59) (.leaf ti60))))))) (.node 91 (.node 76 (.node 68 (.node 64 (.node 62 (.leaf ti61) (.node 63 (.leaf ti62) (.leaf ti63))) (.node 66 (.node 65 (.leaf ti64) (.leaf ti65)) (.node 67 (.leaf ti66) (.leaf ti67)))) (.node 72 (.node 70 (.node 69 (.leaf ti68) (.leaf ti69)) (.node 71 (.leaf ti70) (.leaf ti71))) (.node 74 (.node 73 (.leaf ti72) (.leaf ti73)) (.node 75 (.leaf ti74) (.leaf ti75))))) (.node 83 (.node 79 (.node 77 (.leaf ti76) (.node 78 (.leaf ti77) (.leaf ti78))) (.node 81 (.node 80 (.leaf ti79) (.leaf ti80)) (.node 82 (.leaf ti81) (.leaf ti82)))) (.node 87 (.node 85 (.node 84 (.leaf ti83) (.leaf ti84)) (.node 86 (.leaf ti85) (.leaf ti86))) (.node 89 (.node 88 (.leaf ti87) (.leaf ti88)) (.node 90 (.leaf ti89) (.leaf ti90)))))) (.node 106 (.node 98 (.node 94 (.node 92 (.leaf ti91) (.node 93 (.leaf ti92) (.leaf ti93))) (.node 96 (.node 95 (.leaf ti94) (.leaf ti95)) (.node 97 (.leaf ti96) (.leaf ti97)))) (.node 102 (.node 100 (.node 99 (.leaf ti98) (.leaf ti99)) (.node 101 (.leaf ti100) (.leaf ti101))) (.node 104 (.node 103 (.leaf ti102) (.leaf ti103)) (.node 105 (.leaf ti104) (.leaf ti105))))) (.node 114 (.node 110 (.node 108 (.node 107 (.leaf ti106) (.leaf ti107)) (.node 109 (.leaf ti108) (.leaf ti109))) (.node 112 (.node 111 (.leaf ti110) (.leaf ti111)) (.node 113 (.leaf ti112) (.leaf ti113)))) (.node 118 (.node 116 (.node 115 (.leaf ti114) (.leaf ti115)) (.node 117 (.leaf ti116) (.leaf ti117))) (.node 120 (.node 119 (.leaf ti118) (.leaf ti119)) (.node 121 (.leaf ti120) (.leaf ti121))))))))
def ntypes : Nat := 122
noncomputable def T : TypeId → TI := fun t => bif Nat.blt t ntypes then types.get t else tiOf Try.prog t
def srs : List Nat := [6, 7, 11, 12, 13, 14, 15, 18, 20, 22, 23, 32, 33, 35, 48, 50, 53, 57]
def sr : FuncId → Bool := fun f => bif Nat.blt f 101 then mem? f srs else true
/-- gosem.cut.init -/
noncomputable def fx2 : FX := { nt := 1, res := [], ll := [], lx := [], bef := [], pol := .pure, code := Try.f2.body }
/-- pagemend/pagemendlaw09.WaitsRings -/
noncomputable def fx3 : FX := { nt := 92, res := [.tmp 6], ll := [(21, [7, 11, 12, 13]), (10, [1, 2, 7, 8, 10]), (6, [1, 2, 7, 8, 9])], lx := [(4, []), (5, [7, 11, 12, 13]), (2, [1, 2, 7, 8]), (3, [1, 2, 7, 8, 10]), (0, [1, 2, 7, 8]), (1, [1, 2, 7, 8, 9])], bef := [(13, [0, 1, 0, 4, 0, 16, 0, 112, 240, 508, 1020, 2047, 4095, 8191]), (23, [0, 0, 3, 7, 0, 0, 48, 0, 240, 496, 1023])], pol := .pure, code := Try.f3.body }
/-- pagemend/pagemendlaw09.WaitsArise -/
noncomputable def fx4 : FX := { nt := 111, res := [.tmp 2], ll := [(31, [3, 4, 11, 12, 13]), (25, [3, 4, 11]), (5, [3, 4])], lx := [(0, []), (1, [3, 4]), (3, [3, 4]), (4, [3, 4, 11]), (5, [3, 4, 11]), (6, [3, 4, 11, 12, 13]), (2, [3, 4])], bef := [], pol := .pure, code := Try.f4.body }
/-- pagemend/pagemendlaw09.awake -/
noncomputable def fx5 : FX := { nt := 35, res := [.tmp 0], ll := [], lx := [], bef := [], pol := .pure, code := Try.f5.body }
/-- pagemend/waits.Cycle -/
noncomputable def fx6 : FX := { nt := 60, res := [.tmp 4], ll := [(12, [1, 2, 5, 6, 7, 40, 41, 42]), (5, [1, 2, 5, 6])], lx := [(0, []), (1, [1, 2, 5, 6]), (2, [1, 2, 5, 6]), (3, [1, 2, 5, 6, 7, 40, 41, 42])], bef := [(8, [0, 0, 0, 4, 12, 30, 62, 127, 255])], pol := .pure, code := Try.f6.body }
/-- pagemend/pagemenddraw.New -/
noncomputable def fx7 : FX := { nt := 15, res := [.tmp 4], ll := [], lx := [], bef := [], pol := .share, code := Try.f7.body }
/-- (*pagemend/pagemenddraw.Codes).Left -/
noncomputable def fx8 : FX := { nt := 13, res := [.tmp 2], ll := [], lx := [], bef := [(1, [0, 1, 3, 7, 15, 0, 32, 96, 224, 511, 1023])], pol := .share, code := Try.f8.body }
/-- (*pagemend/pagemenddraw.Codes).Grant -/
noncomputable def fx9 : FX := { nt := 15, res := [.cell 2 29], ll := [], lx := [], bef := [], pol := .share, code := Try.f9.body }
/-- (*pagemend/pagemenddraw.Codes).Next -/
noncomputable def fx10 : FX := { nt := 50, res := [.tmp 4], ll := [], lx := [], bef := [(1, [0, 1, 3, 7, 0, 16, 48, 112, 240, 511, 1023, 2047, 4095, 8191]), (3, [0, 1, 3, 7, 0, 16, 48, 112, 255, 511, 1023, 2047])], pol := .share, code := Try.f10.body }
/-- pagemend/locks.Cancel -/
noncomputable def fx11 : FX := { nt := 8, res := [.cell 4 25], ll := [], lx := [], bef := [], pol := .pure, code := Try.f11.body }
/-- pagemend/locks.Drop -/
noncomputable def fx12 : FX := { nt := 10, res := [.cell 6 25], ll := [], lx := [], bef := [], pol := .pure, code := Try.f12.body }
/-- pagemend/locks.Release -/
noncomputable def fx13 : FX := { nt := 11, res := [.cell 4 25], ll := [], lx := [], bef := [], pol := .pure, code := Try.f13.body }
/-- pagemend/locks.Request -/
noncomputable def fx14 : FX := { nt := 81, res := [.cell 4 25, .tmp 5, .tmp 6], ll := [], lx := [(1, [2, 3, 4]), (0, [2, 3, 4])], bef := [(10, [0, 0, 2, 0, 8, 31, 0, 64, 255, 511]), (15, [0, 1, 0, 0, 12, 0, 32, 127, 255, 511]), (17, [0, 0, 0, 4, 0, 16, 62, 0, 128, 510, 127, 2047, 4095])], pol := .pure, code := Try.f14.body }
/-- pagemend/waits.Would -/
noncomputable def fx15 : FX := { nt := 23, res := [.tmp 4, .tmp 5], ll := [], lx := [], bef := [], pol := .pure, code := Try.f15.body }
/-- pagemend/pagemendref09.Ints -/
noncomputable def fx16 : FX := { nt := 26, res := [.tmp 4], ll := [(4, [0, 1, 5])], lx := [(0, []), (1, [0, 1, 5])], bef := [(6, [0, 0, 3, 7, 0, 0, 48, 112, 255])], pol := .pure, code := Try.f16.body }
/-- pagemend/pagemendref08.Valid -/
noncomputable def fx17 : FX := { nt := 121, res := [.tmp 2], ll := [(20, [1, 5, 6, 7]), (14, [1, 5]), (9, [1, 3, 4]), (4, [1, 3])], lx := [(4, []), (5, [1, 5]), (6, [1, 5]), (7, [1, 5, 6, 7]), (0, [1]), (1, [1, 3]), (2, [1, 3]), (3, [1, 3, 4])], bef := [(6, [0, 1, 0, 7, 15, 31, 63, 127, 255, 511, 1023, 2047, 4095, 2047, 10239, 32767, 65535, 2047, 133119, 2047, 919551, 1968127, 4194303, 8388607, 16777215, 33554431]), (9, [0, 1, 3, 7, 15, 7, 63, 127, 255, 7, 519, 7, 3591, 7687, 15879, 32767, 65535]), (11, [0, 1, 0, 7, 15, 0, 32, 0, 224, 480, 1023]), (17, [0, 1, 3, 7, 15, 15, 47, 15, 143, 511, 15, 1039, 4095, 8191]), (22, [0, 1, 0, 7, 15, 31, 0, 64, 255])], pol := .pure, code := Try.f17.body }
/-- pagemend/waits.For -/
noncomputable def fx18 : FX := { nt := 11, res := [.tmp 4], ll := [], lx := [], bef := [], pol := .pure, code := Try.f18.body }
/-- pagemend/locks.Valid -/
noncomputable def fx19 : FX := { nt := 83, res := [.tmp 2], ll := [(10, [1, 53, 54, 55]), (4, [1, 16, 17, 18])], lx := [(2, []), (3, [1, 53, 54, 55]), (0, [1]), (1, [1, 16, 17, 18])], bef := [(6, [0, 1, 3, 7, 15, 31, 63, 127, 255, 127, 639, 2047, 4095, 127, 16383, 32767, 65535, 131071, 262143, 131071, 655359, 2097151, 4194303, 131071, 16777215, 33554431, 67108863, 134217727]), (12, [0, 1, 3, 7, 15, 15, 47, 15, 143, 511, 15, 1039, 4095, 8191, 16383, 32767, 65535, 32767, 262143, 32767, 1048575, 2097151])], pol := .pure, code := Try.f19.body }
/-- pagemend/waits.blockers -/
noncomputable def fx20 : FX := { nt := 53, res := [.tmp 4], ll := [(9, [2, 5, 6, 23, 24, 25, 29, 30, 31]), (6, [2, 5, 6, 23, 24, 25])], lx := [(0, [6]), (1, [2, 5, 6, 23, 24, 25]), (2, [2, 5, 6, 23, 24, 25]), (3, [2, 5, 6, 23, 24, 25, 29, 30, 31])], bef := [(5, [0, 1, 0, 4, 0, 28, 63, 127, 0]), (11, [0, 0, 2, 0, 14, 30, 63])], pol := .pure, code := Try.f20.body }
/-- slices.Contains[[]int,int] -/
noncomputable def fx21 : FX := { nt := 9, res := [.tmp 4], ll := [], lx := [], bef := [], pol := .share, code := Try.f21.body }
/-- slices.Clone[[]int,int] -/
noncomputable def fx22 : FX := { nt := 8, res := [.tmp 2], ll := [], lx := [], bef := [], pol := .fresh, code := Try.f22.body }
/-- pagemend/locks.without -/
noncomputable def fx23 : FX := { nt := 25, res := [.cell 6 25], ll := [], lx := [], bef := [], pol := .share, code := Try.f23.body }
/-- pagemend/locks.Cancel$1 -/
noncomputable def fx24 : FX := { nt := 3, res := [.tmp 2], ll := [], lx := [], bef := [], pol := .pure, code := Try.f24.body }
/-- pagemend/locks.Cancel$2 -/
noncomputable def fx25 : FX := { nt := 8, res := [.tmp 3], ll := [], lx := [], bef := [], pol := .share, code := Try.f25.body }
/-- pagemend/locks.Drop$1 -/
noncomputable def fx26 : FX := { nt := 15, res := [.tmp 4], ll := [], lx := [], bef := [], pol := .share, code := Try.f26.body }
/-- pagemend/locks.Drop$2 -/
noncomputable def fx27 : FX := { nt := 3, res := [.tmp 2], ll := [], lx := [], bef := [], pol := .pure, code := Try.f27.body }
/-- pagemend/locks.Release$1 -/
noncomputable def fx28 : FX := { nt := 8, res := [.tmp 3], ll := [], lx := [], bef := [], pol := .share, code := Try.f28.body }
/-- pagemend/locks.valid -/
noncomputable def fx29 : FX := { nt := 45, res := [.tmp 2], ll := [], lx := [], bef := [], pol := .pure, code := Try.f29.body }
/-- pagemend/locks.Waiting -/
noncomputable def fx30 : FX := { nt := 24, res := [.cell 4 29, .tmp 5], ll := [], lx := [], bef := [], pol := .pure, code := Try.f30.body }
/-- pagemend/locks.mode -/
noncomputable def fx31 : FX := { nt := 24, res := [.tmp 6], ll := [], lx := [], bef := [], pol := .pure, code := Try.f31.body }
/-- pagemend/locks.own -/
noncomputable def fx32 : FX := { nt := 10, res := [.cell 2 25], ll := [], lx := [], bef := [(1, [0, 1, 3, 0, 8, 31, 63, 127])], pol := .fresh, code := Try.f32.body }
/-- slices.Insert[[]pagemend/api.Grant,pagemend/api.Grant] -/
noncomputable def fx33 : FX := { nt := 95, res := [.tmp 6], ll := [], lx := [], bef := [(11, [0, 0, 0, 6, 15, 0, 0, 96, 255]), (15, [0, 0, 0, 6, 15, 0, 0, 96, 255])], pol := .share, code := Try.f33.body }
/-- pagemend/locks.place -/
noncomputable def fx34 : FX := { nt := 51, res := [.tmp 4], ll := [(4, [2, 3, 18, 19, 20])], lx := [(0, [2]), (1, [2, 3, 18, 19, 20])], bef := [], pol := .pure, code := Try.f34.body }
/-- pagemend/locks.settle -/
noncomputable def fx35 : FX := { nt := 57, res := [.cell 2 25], ll := [(5, [1, 2, 3, 4]), (2, [1, 2, 3])], lx := [(0, [1, 2]), (1, [1, 2, 3]), (2, [1, 2, 3]), (3, [1, 2, 3, 4])], bef := [], pol := .share, code := Try.f35.body }
/-- pagemend/pagemendref08.grant -/
noncomputable def fx36 : FX := { nt := 45, res := [.tmp 2], ll := [], lx := [], bef := [], pol := .pure, code := Try.f36.body }
/-- pagemend/pagemendref08.less -/
noncomputable def fx37 : FX := { nt := 38, res := [.tmp 4], ll := [], lx := [], bef := [], pol := .pure, code := Try.f37.body }
/-- pagemend/pagemendref08.Conflict -/
noncomputable def fx38 : FX := { nt := 27, res := [.tmp 4], ll := [], lx := [], bef := [], pol := .pure, code := Try.f38.body }
/-- pagemend/pagemendref08.mode -/
noncomputable def fx39 : FX := { nt := 39, res := [.tmp 6], ll := [(2, [1, 3, 5, 7])], lx := [(0, []), (1, [1, 3, 5, 7])], bef := [(4, [0, 1, 0, 7, 15, 31, 0, 127, 255, 511, 1023, 511, 4095, 8191, 16383, 511, 65535, 131071])], pol := .pure, code := Try.f39.body }
/-- pagemend/locks.order -/
noncomputable def fx40 : FX := { nt := 26, res := [.tmp 4], ll := [], lx := [], bef := [(1, [0, 1, 3, 0, 8, 24, 63, 0, 128, 384, 0, 1024, 3072, 8191, 0, 16384, 0, 65536, 262143, 524287, 1048575, 2097151])], pol := .pure, code := Try.f40.body }
/-- pagemend/locks.conflict -/
noncomputable def fx41 : FX := { nt := 27, res := [.tmp 4], ll := [], lx := [], bef := [], pol := .pure, code := Try.f41.body }
/-- slices.ContainsFunc[[]pagemend/api.Grant,pagemend/api.Grant] -/
noncomputable def fx42 : FX := { nt := 9, res := [.tmp 4], ll := [], lx := [], bef := [], pol := .share, code := Try.f42.body }
/-- pagemend/locks.Valid$1 -/
noncomputable def fx43 : FX := { nt := 9, res := [.tmp 3], ll := [], lx := [], bef := [], pol := .share, code := Try.f43.body }
/-- slices.IndexFunc[[]pagemend/api.Grant,pagemend/api.Grant] -/
noncomputable def fx44 : FX := { nt := 19, res := [.tmp 4], ll := [(2, [0, 1, 7, 8])], lx := [(0, []), (1, [0, 1, 7, 8])], bef := [], pol := .share, code := Try.f44.body }
/-- pagemend/waits.blockers$1 -/
noncomputable def fx45 : FX := { nt := 8, res := [.tmp 3], ll := [], lx := [], bef := [], pol := .share, code := Try.f45.body }
/-- pagemend/waits.conflict -/
noncomputable def fx46 : FX := { nt := 27, res := [.tmp 4], ll := [], lx := [], bef := [], pol := .pure, code := Try.f46.body }
/-- slices.Sort[[]int,int] -/
noncomputable def fx47 : FX := { nt := 11, res := [], ll := [], lx := [], bef := [], pol := .share, code := Try.f47.body }
/-- slices.Compact[[]int,int] -/
noncomputable def fx48 : FX := { nt := 61, res := [.tmp 2], ll := [(9, [0, 3, 4, 5]), (4, [0, 3])], lx := [(0, [0]), (1, [0, 3]), (2, [0, 3]), (3, [0, 3, 4, 5])], bef := [(6, [0, 0, 3, 7, 0, 0, 32, 112, 240, 511]), (11, [0, 0, 3, 7, 0, 0, 32, 112, 240, 511])], pol := .share, code := Try.f48.body }
/-- slices.Index[[]int,int] -/
noncomputable def fx49 : FX := { nt := 19, res := [.tmp 4], ll := [(2, [0, 1, 7, 8])], lx := [(0, []), (1, [0, 1, 7, 8])], bef := [], pol := .share, code := Try.f49.body }
/-- slices.DeleteFunc[[]pagemend/api.Grant,pagemend/api.Grant] -/
noncomputable def fx50 : FX := { nt := 42, res := [.tmp 4], ll := [(5, [0, 1, 5, 6])], lx := [(0, [0, 5]), (1, [0, 1, 5, 6])], bef := [], pol := .share, code := Try.f50.body }
/-- pagemend/locks.Waiting$1 -/
noncomputable def fx51 : FX := { nt := 8, res := [.tmp 3], ll := [], lx := [], bef := [], pol := .share, code := Try.f51.body }
/-- pagemend/locks.find -/
noncomputable def fx52 : FX := { nt := 15, res := [.tmp 6, .tmp 7], ll := [], lx := [], bef := [], pol := .pure, code := Try.f52.body }
/-- slices.Clone[[]pagemend/api.Grant,pagemend/api.Grant] -/
noncomputable def fx53 : FX := { nt := 8, res := [.tmp 2], ll := [], lx := [], bef := [], pol := .fresh, code := Try.f53.body }
/-- slices.rotateRight[pagemend/api.Grant] -/
noncomputable def fx55 : FX := { nt := 10, res := [], ll := [], lx := [], bef := [], pol := .share, code := Try.f55.body }
/-- pagemend/locks.blocked -/
noncomputable def fx56 : FX := { nt := 19, res := [.tmp 4], ll := [], lx := [], bef := [], pol := .pure, code := Try.f56.body }
/-- slices.Delete[[]pagemend/api.Grant,pagemend/api.Grant] -/
noncomputable def fx57 : FX := { nt := 33, res := [.tmp 6], ll := [], lx := [], bef := [(5, [0, 0, 3, 0, 0, 24, 63, 127])], pol := .share, code := Try.f57.body }
/-- cmp.Or[int] -/
noncomputable def fx58 : FX := { nt := 18, res := [.tmp 2], ll := [(3, [3, 6, 7, 8])], lx := [(0, [3]), (1, [3, 6, 7, 8])], bef := [], pol := .pure, code := Try.f58.body }
/-- cmp.Compare[int] -/
noncomputable def fx59 : FX := { nt := 20, res := [.tmp 4], ll := [], lx := [], bef := [], pol := .pure, code := Try.f59.body }
/-- slices.pdqsortOrdered[int] -/
noncomputable def fx60 : FX := { nt := 134, res := [], ll := [(2, [0, 1, 2, 3, 8, 9])], lx := [(0, []), (1, [0, 1, 2, 3, 8, 9])], bef := [(17, [0, 1, 3, 7, 7, 23, 63, 127, 7, 7, 775, 1799, 4095, 8191, 16383])], pol := .share, code := Try.f60.body }
/-- math/bits.Len -/
noncomputable def fx61 : FX := { nt := 8, res := [.tmp 2], ll := [], lx := [], bef := [], pol := .pure, code := Try.f61.body }
/-- slices.BinarySearchFunc[[]pagemend/api.Grant,pagemend/api.Grant,pagemend/api.Grant] -/
noncomputable def fx62 : FX := { nt := 49, res := [.tmp 6, .tmp 7], ll := [(3, [0, 2, 4, 8, 9, 10])], lx := [(0, [0, 2, 4, 8, 9]), (1, [0, 2, 4, 8, 9, 10])], bef := [(5, [0, 0, 0, 6, 14, 0, 63, 127]), (8, [0, 0, 0, 6, 14, 30, 30, 30, 222, 478, 30, 2046, 4094, 8190, 4095, 32767])], pol := .share, code := Try.f62.body }
/-- slices.rotateLeft[pagemend/api.Grant] -/
noncomputable def fx63 : FX := { nt := 14, res := [], ll := [], lx := [], bef := [], pol := .share, code := Try.f63.body }
/-- pagemend/locks.blocked$1 -/
noncomputable def fx64 : FX := { nt := 12, res := [.tmp 4], ll := [], lx := [], bef := [(1, [0, 0, 2, 0, 14, 30, 63, 127])], pol := .share, code := Try.f64.body }
/-- cmp.isNaN[int] -/
noncomputable def fx65 : FX := { nt := 6, res := [.tmp 2], ll := [], lx := [], bef := [], pol := .pure, code := Try.f65.body }
/-- slices.insertionSortOrdered[int] -/
noncomputable def fx66 : FX := { nt := 49, res := [], ll := [(4, [0, 1, 2, 6, 7]), (1, [0, 1, 2, 6])], lx := [(0, []), (1, [0, 1, 2, 6]), (2, [0, 1, 2, 6]), (3, [0, 1, 2, 6, 7])], bef := [(4, [0, 0, 3, 7, 15, 15, 63, 127, 15, 15, 527, 1807, 3855, 8191, 16383]), (6, [0, 0, 0, 0, 8, 0, 0, 64, 224, 480, 0, 0, 3072, 7168, 16355, 32739, 65535, 131071])], pol := .share, code := Try.f66.body }
/-- slices.heapSortOrdered[int] -/
noncomputable def fx67 : FX := { nt := 56, res := [], ll := [(8, [0, 6, 7, 10]), (4, [0, 6, 7, 8, 9])], lx := [(2, []), (3, [0, 6, 7, 10]), (0, [0, 6, 7, 8]), (1, [0, 6, 7, 8, 9])], bef := [(10, [0, 0, 0, 0, 0, 24, 0, 0, 0, 384, 960, 1984, 0, 0, 12288, 28672, 65475, 131011, 262143, 524287])], pol := .share, code := Try.f67.body }
/-- slices.breakPatternsOrdered[int] -/
noncomputable def fx68 : FX := { nt := 65, res := [], ll := [(5, [0, 1, 6, 7, 8, 9])], lx := [(0, []), (1, [0, 1, 6, 7, 8, 9])], bef := [(10, [0, 0, 0, 0, 0, 24, 0, 0, 0, 384, 960, 1984, 0, 0, 12288, 28672, 65475, 131011, 262143, 524287])], pol := .share, code := Try.f68.body }
/-- slices.choosePivotOrdered[int] -/
noncomputable def fx69 : FX := { nt := 57, res := [.tmp 6, .tmp 7], ll := [], lx := [(0, [6, 7])], bef := [], pol := .share, code := Try.f69.body }
/-- slices.reverseRangeOrdered[int] -/
noncomputable def fx70 : FX := { nt := 32, res := [], ll := [(2, [0, 6, 7])], lx := [(0, []), (1, [0, 6, 7])], bef := [(3, [0, 0, 0, 0, 0, 0, 48, 112, 0, 0, 768, 1792, 4083, 8179, 16383, 32767])], pol := .share, code := Try.f70.body }
/-- slices.partialInsertionSortOrdered[int] -/
noncomputable def fx71 : FX := { nt := 133, res := [.tmp 6], ll := [(20, [0, 1, 2, 7, 8, 10]), (14, [0, 1, 2, 7, 8, 9]), (5, [0, 1, 2, 7, 8]), (3, [0, 1, 2, 7, 8])], lx := [(0, []), (1, [0, 1, 2, 7, 8]), (6, [0, 1, 2, 7, 8]), (7, [0, 1, 2, 7, 8, 10]), (4, [0, 1, 2, 7, 8]), (5, [0, 1, 2, 7, 8, 9]), (2, [0, 1, 2, 7, 8]), (3, [0, 1, 2, 7, 8])], bef := [(5, [0, 0, 3, 7, 15, 15, 63, 127, 15, 15, 527, 1807, 3855, 8191, 16383, 32767]), (11, [0, 0, 0, 0, 8, 0, 0, 64, 224, 480, 0, 0, 3072, 7168, 16355, 32739, 65535, 131071]), (16, [0, 0, 3, 7, 0, 0, 32, 112, 240, 511, 1023]), (17, [0, 0, 0, 0, 8, 0, 0, 64, 224, 480, 0, 0, 3072, 7168, 16355, 32739, 65535, 131071]), (22, [0, 0, 3, 7, 0, 0, 32, 112, 240, 511, 1023]), (23, [0, 0, 0, 0, 8, 0, 0, 64, 224, 480, 0, 0, 3072, 7168, 16355, 32739, 65535, 131071])], pol := .share, code := Try.f71.body }
/-- cmp.Less[int] -/
noncomputable def fx72 : FX := { nt := 17, res := [.tmp 4], ll := [], lx := [], bef := [], pol := .pure, code := Try.f72.body }
/-- slices.partitionEqualOrdered[int] -/
noncomputable def fx73 : FX := { nt := 84, res := [.tmp 8], ll := [(5, [0, 1, 9, 10]), (3, [0, 1, 9, 10])], lx := [(0, [9]), (1, [0, 1, 9, 10]), (4, [0, 1, 9, 10]), (5, [0, 1, 9, 10]), (2, [0, 1, 9, 10]), (3, [0, 1, 9, 10])], bef := [(1, [0, 0, 0, 0, 0, 0, 48, 112, 0, 0, 768, 1792, 4083, 8179, 16383, 32767]), (3, [0, 0, 3, 7, 15, 15, 63, 127, 15, 15, 783, 1807, 4095, 8191, 16383]), (5, [0, 0, 3, 7, 15, 15, 63, 127, 15, 15, 783, 1807, 4095, 8191]), (8, [0, 0, 0, 0, 0, 0, 48, 112, 0, 0, 768, 1792, 4083, 8179, 16383, 32767])], pol := .share, code := Try.f73.body }
/-- slices.partitionOrdered[int] -/
noncomputable def fx74 : FX := { nt := 168, res := [.tmp 8, .tmp 9], ll := [(15, [0, 1, 10, 11]), (13, [0, 1, 10, 11]), (5, [0, 1, 10, 11]), (3, [0, 1, 10, 11])], lx := [(4, [0, 1, 11]), (5, [0, 1, 10, 11]), (8, [0, 1, 10, 11]), (9, [0, 1, 10, 11]), (6, [0, 1, 10, 11]), (7, [0, 1, 10, 11]), (2, [0, 1, 10, 11]), (3, [0, 1, 10, 11]), (0, [0, 1, 10, 11]), (1, [0, 1, 10, 11])], bef := [(1, [0, 0, 0, 0, 0, 0, 48, 112, 0, 0, 768, 1792, 4083, 8179, 16383, 32767]), (3, [0, 0, 3, 7, 15, 15, 63, 127, 15, 15, 783, 1807, 4095, 8191]), (5, [0, 0, 3, 7, 15, 15, 63, 127, 15, 15, 783, 1807, 4095, 8191, 16383]), (8, [0, 0, 0, 0, 0, 0, 48, 112, 0, 0, 768, 1792, 4083, 8179, 16383, 32767]), (10, [0, 0, 0, 0, 0, 0, 48, 112, 0, 0, 768, 1792, 4083, 8179, 16383, 32767]), (13, [0, 0, 3, 7, 15, 15, 63, 127, 15, 15, 783, 1807, 4095, 8191]), (15, [0, 0, 3, 7, 15, 15, 63, 127, 15, 15, 783, 1807, 4095, 8191, 16383]), (18, [0, 0, 0, 0, 0, 0, 48, 112, 0, 0, 768, 1792, 4083, 8179, 16383, 32767]), (21, [0, 0, 0, 0, 0, 0, 48, 112, 0, 0, 768, 1792, 4083, 8179, 16383, 32767])], pol := .share, code := Try.f74.body }
/-- math/bits.Len32 -/
noncomputable def fx75 : FX := { nt := 19, res := [.tmp 2], ll := [], lx := [], bef := [], pol := .pure, code := Try.f75.body }
/-- math/bits.Len64 -/
noncomputable def fx76 : FX := { nt := 25, res := [.tmp 2], ll := [], lx := [], bef := [], pol := .pure, code := Try.f76.body }
/-- slices.Reverse[[]pagemend/api.Grant,pagemend/api.Grant] -/
noncomputable def fx77 : FX := { nt := 28, res := [], ll := [(1, [0, 2, 3])], lx := [(0, []), (1, [0, 2, 3])], bef := [(3, [0, 0, 0, 0, 0, 0, 48, 112, 0, 0, 768, 1792, 4083, 8179, 16383, 32767])], pol := .share, code := Try.f77.body }
/-- slices.siftDownOrdered[int] -/
noncomputable def fx78 : FX := { nt := 76, res := [], ll := [(1, [0, 2, 3, 8])], lx := [(0, []), (1, [0, 2, 3, 8])], bef := [(3, [0, 1, 0, 7, 15, 31, 31, 31, 223, 511, 1023, 31, 31, 31, 12319, 28703, 63519, 129055, 262143, 524287]), (5, [0, 0, 0, 6, 15, 31, 0, 0, 0, 384, 960, 1984, 4095, 8191]), (6, [0, 0, 0, 6, 0, 0, 0, 96, 0, 0, 0, 1536, 3840, 7936, 0, 0, 0, 98304, 245760, 507904, 1048335, 2096911, 4194303, 8388607])], pol := .share, code := Try.f78.body }
/-- slices.nextPowerOfTwo -/
noncomputable def fx79 : FX := { nt := 7, res := [.tmp 2], ll := [], lx := [], bef := [], pol := .share, code := Try.f79.body }
/-- (*slices.xorshift).Next -/
noncomputable def fx80 : FX := { nt := 33, res := [.tmp 2], ll := [], lx := [], bef := [(1, [0, 1, 3, 0, 8, 24, 56, 127, 255, 511]), (2, [0, 1, 3, 0, 8, 24, 56, 127, 255, 511]), (3, [0, 1, 3, 0, 8, 24, 56, 127, 255, 511])], pol := .share, code := Try.f80.body }
/-- slices.medianAdjacentOrdered[int] -/
noncomputable def fx81 : FX := { nt := 15, res := [.tmp 6], ll := [], lx := [], bef := [], pol := .share, code := Try.f81.body }
/-- slices.medianOrdered[int] -/
noncomputable def fx82 : FX := { nt := 36, res := [.tmp 10], ll := [], lx := [], bef := [], pol := .share, code := Try.f82.body }
/-- slices.order2Ordered[int] -/
noncomputable def fx83 : FX := { nt := 28, res := [.tmp 8, .tmp 9], ll := [], lx := [], bef := [(1, [0, 0, 3, 7, 0, 0, 48, 112, 255])], pol := .share, code := Try.f83.body }
noncomputable def funcs : FT := (.node 42 (.node 22 (.node 12 (.node 7 (.node 4 (.node 3 (.leaf 2 fx2) (.leaf 3 fx3)) (.node 5 (.leaf 4 fx4) (.node 6 (.leaf 5 fx5) (.leaf 6 fx6)))) (.node 9 (.node 8 (.leaf 7 fx7) (.leaf 8 fx8)) (.node 10 (.leaf 9 fx9) (.node 11 (.leaf 10 fx10) (.leaf 11 fx11))))) (.node 17 (.node 14 (.node 13 (.leaf 12 fx12) (.leaf 13 fx13)) (.node 15 (.leaf 14 fx14) (.node 16 (.leaf 15 fx15) (.leaf 16 fx16)))) (.node 19 (.node 18 (.leaf 17 fx17) (.leaf 18 fx18)) (.node 20 (.leaf 19 fx19) (.node 21 (.leaf 20 fx20) (.leaf 21 fx21)))))) (.node 32 (.node 27 (.node 24 (.node 23 (.leaf 22 fx22) (.leaf 23 fx23)) (.node 25 (.leaf 24 fx24) (.node 26 (.leaf 25 fx25) (.leaf 26 fx26)))) (.node 29 (.node 28 (.leaf 27 fx27) (.leaf 28 fx28)) (.node 30 (.leaf 29 fx29) (.node 31 (.leaf 30 fx30) (.leaf 31 fx31))))) (.node 37 (.node 34 (.node 33 (.leaf 32 fx32) (.leaf 33 fx33)) (.node 35 (.leaf 34 fx34) (.node 36 (.leaf 35 fx35) (.leaf 36 fx36)))) (.node 39 (.node 38 (.leaf 37 fx37) (.leaf 38 fx38)) (.node 40 (.leaf 39 fx39) (.node 41 (.leaf 40 fx40) (.leaf 41 fx41))))))) (.node 63 (.node 52 (.node 47 (.node 44 (.node 43 (.leaf 42 fx42) (.leaf 43 fx43)) (.node 45 (.leaf 44 fx44) (.node 46 (.leaf 45 fx45) (.leaf 46 fx46)))) (.node 49 (.node 48 (.leaf 47 fx47) (.leaf 48 fx48)) (.node 50 (.leaf 49 fx49) (.node 51 (.leaf 50 fx50) (.leaf 51 fx51))))) (.node 58 (.node 55 (.node 53 (.leaf 52 fx52) (.leaf 53 fx53)) (.node 56 (.leaf 55 fx55) (.node 57 (.leaf 56 fx56) (.leaf 57 fx57)))) (.node 60 (.node 59 (.leaf 58 fx58) (.leaf 59 fx59)) (.node 61 (.leaf 60 fx60) (.node 62 (.leaf 61 fx61) (.leaf 62 fx62)))))) (.node 73 (.node 68 (.node 65 (.node 64 (.leaf 63 fx63) (.leaf 64 fx64)) (.node 66 (.leaf 65 fx65) (.node 67 (.leaf 66 fx66) (.leaf 67 fx67)))) (.node 70 (.node 69 (.leaf 68 fx68) (.leaf 69 fx69)) (.node 71 (.leaf 70 fx70) (.node 72 (.leaf 71 fx71) (.leaf 72 fx72))))) (.node 78 (.node 75 (.node 74 (.leaf 73 fx73) (.leaf 74 fx74)) (.node 76 (.leaf 75 fx75) (.node 77 (.leaf 76 fx76) (.leaf 77 fx77)))) (.node 81 (.node 79 (.leaf 78 fx78) (.node 80 (.leaf 79 fx79) (.leaf 80 fx80))) (.node 82 (.leaf 81 fx81) (.node 83 (.leaf 82 fx82) (.leaf 83 fx83))))))))
theorem types_ok : (List.range ntypes).map types.get = (List.range ntypes).map (tiOf Try.prog) := by kernel_rfl
theorem T_eq : T = tiOf Try.prog := table_eq types_ok
theorem sr_eq : sr = slRes Try.prog := sr_table (by kernel_rfl) (by kernel_rfl)
theorem names : namesOk Try.prog = true := by kernel_rfl
theorem mixed : Try.prog.follows .mixedOrders = true := by kernel_rfl
theorem rows : (funcs.rows.all fun p => rowFit Try.prog p.1 p.2) = true := by kernel_rfl
theorem same2 : RowSame Try.prog 2 fx2 := fun fn h => by rw [Try.func2] at h; cases h; exact ⟨rfl, rfl⟩
theorem same3 : RowSame Try.prog 3 fx3 := fun fn h => by rw [Try.func3] at h; cases h; exact ⟨rfl, rfl⟩
theorem same4 : RowSame Try.prog 4 fx4 := fun fn h => by rw [Try.func4] at h; cases h; exact ⟨rfl, rfl⟩
theorem same5 : RowSame Try.prog 5 fx5 := fun fn h => by rw [Try.func5] at h; cases h; exact ⟨rfl, rfl⟩
theorem same6 : RowSame Try.prog 6 fx6 := fun fn h => by rw [Try.func6] at h; cases h; exact ⟨rfl, rfl⟩
theorem same7 : RowSame Try.prog 7 fx7 := fun fn h => by rw [Try.func7] at h; cases h; exact ⟨rfl, rfl⟩
theorem same8 : RowSame Try.prog 8 fx8 := fun fn h => by rw [Try.func8] at h; cases h; exact ⟨rfl, rfl⟩
theorem same9 : RowSame Try.prog 9 fx9 := fun fn h => by rw [Try.func9] at h; cases h; exact ⟨rfl, rfl⟩
theorem same10 : RowSame Try.prog 10 fx10 := fun fn h => by rw [Try.func10] at h; cases h; exact ⟨rfl, rfl⟩
theorem same11 : RowSame Try.prog 11 fx11 := fun fn h => by rw [Try.func11] at h; cases h; exact ⟨rfl, rfl⟩
theorem same12 : RowSame Try.prog 12 fx12 := fun fn h => by rw [Try.func12] at h; cases h; exact ⟨rfl, rfl⟩
theorem same13 : RowSame Try.prog 13 fx13 := fun fn h => by rw [Try.func13] at h; cases h; exact ⟨rfl, rfl⟩
theorem same14 : RowSame Try.prog 14 fx14 := fun fn h => by rw [Try.func14] at h; cases h; exact ⟨rfl, rfl⟩
theorem same15 : RowSame Try.prog 15 fx15 := fun fn h => by rw [Try.func15] at h; cases h; exact ⟨rfl, rfl⟩
theorem same16 : RowSame Try.prog 16 fx16 := fun fn h => by rw [Try.func16] at h; cases h; exact ⟨rfl, rfl⟩
theorem same17 : RowSame Try.prog 17 fx17 := fun fn h => by rw [Try.func17] at h; cases h; exact ⟨rfl, rfl⟩
theorem same18 : RowSame Try.prog 18 fx18 := fun fn h => by rw [Try.func18] at h; cases h; exact ⟨rfl, rfl⟩
theorem same19 : RowSame Try.prog 19 fx19 := fun fn h => by rw [Try.func19] at h; cases h; exact ⟨rfl, rfl⟩
theorem same20 : RowSame Try.prog 20 fx20 := fun fn h => by rw [Try.func20] at h; cases h; exact ⟨rfl, rfl⟩
theorem same21 : RowSame Try.prog 21 fx21 := fun fn h => by rw [Try.func21] at h; cases h; exact ⟨rfl, rfl⟩
theorem same22 : RowSame Try.prog 22 fx22 := fun fn h => by rw [Try.func22] at h; cases h; exact ⟨rfl, rfl⟩
theorem same23 : RowSame Try.prog 23 fx23 := fun fn h => by rw [Try.func23] at h; cases h; exact ⟨rfl, rfl⟩
theorem same24 : RowSame Try.prog 24 fx24 := fun fn h => by rw [Try.func24] at h; cases h; exact ⟨rfl, rfl⟩
theorem same25 : RowSame Try.prog 25 fx25 := fun fn h => by rw [Try.func25] at h; cases h; exact ⟨rfl, rfl⟩
theorem same26 : RowSame Try.prog 26 fx26 := fun fn h => by rw [Try.func26] at h; cases h; exact ⟨rfl, rfl⟩
theorem same27 : RowSame Try.prog 27 fx27 := fun fn h => by rw [Try.func27] at h; cases h; exact ⟨rfl, rfl⟩
theorem same28 : RowSame Try.prog 28 fx28 := fun fn h => by rw [Try.func28] at h; cases h; exact ⟨rfl, rfl⟩
theorem same29 : RowSame Try.prog 29 fx29 := fun fn h => by rw [Try.func29] at h; cases h; exact ⟨rfl, rfl⟩
theorem same30 : RowSame Try.prog 30 fx30 := fun fn h => by rw [Try.func30] at h; cases h; exact ⟨rfl, rfl⟩
theorem same31 : RowSame Try.prog 31 fx31 := fun fn h => by rw [Try.func31] at h; cases h; exact ⟨rfl, rfl⟩
theorem same32 : RowSame Try.prog 32 fx32 := fun fn h => by rw [Try.func32] at h; cases h; exact ⟨rfl, rfl⟩
theorem same33 : RowSame Try.prog 33 fx33 := fun fn h => by rw [Try.func33] at h; cases h; exact ⟨rfl, rfl⟩
theorem same34 : RowSame Try.prog 34 fx34 := fun fn h => by rw [Try.func34] at h; cases h; exact ⟨rfl, rfl⟩
theorem same35 : RowSame Try.prog 35 fx35 := fun fn h => by rw [Try.func35] at h; cases h; exact ⟨rfl, rfl⟩
theorem same36 : RowSame Try.prog 36 fx36 := fun fn h => by rw [Try.func36] at h; cases h; exact ⟨rfl, rfl⟩
theorem same37 : RowSame Try.prog 37 fx37 := fun fn h => by rw [Try.func37] at h; cases h; exact ⟨rfl, rfl⟩
theorem same38 : RowSame Try.prog 38 fx38 := fun fn h => by rw [Try.func38] at h; cases h; exact ⟨rfl, rfl⟩
theorem same39 : RowSame Try.prog 39 fx39 := fun fn h => by rw [Try.func39] at h; cases h; exact ⟨rfl, rfl⟩
theorem same40 : RowSame Try.prog 40 fx40 := fun fn h => by rw [Try.func40] at h; cases h; exact ⟨rfl, rfl⟩
theorem same41 : RowSame Try.prog 41 fx41 := fun fn h => by rw [Try.func41] at h; cases h; exact ⟨rfl, rfl⟩
theorem same42 : RowSame Try.prog 42 fx42 := fun fn h => by rw [Try.func42] at h; cases h; exact ⟨rfl, rfl⟩
theorem same43 : RowSame Try.prog 43 fx43 := fun fn h => by rw [Try.func43] at h; cases h; exact ⟨rfl, rfl⟩
theorem same44 : RowSame Try.prog 44 fx44 := fun fn h => by rw [Try.func44] at h; cases h; exact ⟨rfl, rfl⟩
theorem same45 : RowSame Try.prog 45 fx45 := fun fn h => by rw [Try.func45] at h; cases h; exact ⟨rfl, rfl⟩
theorem same46 : RowSame Try.prog 46 fx46 := fun fn h => by rw [Try.func46] at h; cases h; exact ⟨rfl, rfl⟩
theorem same47 : RowSame Try.prog 47 fx47 := fun fn h => by rw [Try.func47] at h; cases h; exact ⟨rfl, rfl⟩
theorem same48 : RowSame Try.prog 48 fx48 := fun fn h => by rw [Try.func48] at h; cases h; exact ⟨rfl, rfl⟩
theorem same49 : RowSame Try.prog 49 fx49 := fun fn h => by rw [Try.func49] at h; cases h; exact ⟨rfl, rfl⟩
theorem same50 : RowSame Try.prog 50 fx50 := fun fn h => by rw [Try.func50] at h; cases h; exact ⟨rfl, rfl⟩
theorem same51 : RowSame Try.prog 51 fx51 := fun fn h => by rw [Try.func51] at h; cases h; exact ⟨rfl, rfl⟩
theorem same52 : RowSame Try.prog 52 fx52 := fun fn h => by rw [Try.func52] at h; cases h; exact ⟨rfl, rfl⟩
theorem same53 : RowSame Try.prog 53 fx53 := fun fn h => by rw [Try.func53] at h; cases h; exact ⟨rfl, rfl⟩
theorem same55 : RowSame Try.prog 55 fx55 := fun fn h => by rw [Try.func55] at h; cases h; exact ⟨rfl, rfl⟩
theorem same56 : RowSame Try.prog 56 fx56 := fun fn h => by rw [Try.func56] at h; cases h; exact ⟨rfl, rfl⟩
theorem same57 : RowSame Try.prog 57 fx57 := fun fn h => by rw [Try.func57] at h; cases h; exact ⟨rfl, rfl⟩
theorem same58 : RowSame Try.prog 58 fx58 := fun fn h => by rw [Try.func58] at h; cases h; exact ⟨rfl, rfl⟩
theorem same59 : RowSame Try.prog 59 fx59 := fun fn h => by rw [Try.func59] at h; cases h; exact ⟨rfl, rfl⟩
theorem same60 : RowSame Try.prog 60 fx60 := fun fn h => by rw [Try.func60] at h; cases h; exact ⟨rfl, rfl⟩
theorem same61 : RowSame Try.prog 61 fx61 := fun fn h => by rw [Try.func61] at h; cases h; exact ⟨rfl, rfl⟩
theorem same62 : RowSame Try.prog 62 fx62 := fun fn h => by rw [Try.func62] at h; cases h; exact ⟨rfl, rfl⟩
theorem same63 : RowSame Try.prog 63 fx63 := fun fn h => by rw [Try.func63] at h; cases h; exact ⟨rfl, rfl⟩
theorem same64 : RowSame Try.prog 64 fx64 := fun fn h => by rw [Try.func64] at h; cases h; exact ⟨rfl, rfl⟩
theorem same65 : RowSame Try.prog 65 fx65 := fun fn h => by rw [Try.func65] at h; cases h; exact ⟨rfl, rfl⟩
theorem same66 : RowSame Try.prog 66 fx66 := fun fn h => by rw [Try.func66] at h; cases h; exact ⟨rfl, rfl⟩
theorem same67 : RowSame Try.prog 67 fx67 := fun fn h => by rw [Try.func67] at h; cases h; exact ⟨rfl, rfl⟩
theorem same68 : RowSame Try.prog 68 fx68 := fun fn h => by rw [Try.func68] at h; cases h; exact ⟨rfl, rfl⟩
theorem same69 : RowSame Try.prog 69 fx69 := fun fn h => by rw [Try.func69] at h; cases h; exact ⟨rfl, rfl⟩
theorem same70 : RowSame Try.prog 70 fx70 := fun fn h => by rw [Try.func70] at h; cases h; exact ⟨rfl, rfl⟩
theorem same71 : RowSame Try.prog 71 fx71 := fun fn h => by rw [Try.func71] at h; cases h; exact ⟨rfl, rfl⟩
theorem same72 : RowSame Try.prog 72 fx72 := fun fn h => by rw [Try.func72] at h; cases h; exact ⟨rfl, rfl⟩
theorem same73 : RowSame Try.prog 73 fx73 := fun fn h => by rw [Try.func73] at h; cases h; exact ⟨rfl, rfl⟩
theorem same74 : RowSame Try.prog 74 fx74 := fun fn h => by rw [Try.func74] at h; cases h; exact ⟨rfl, rfl⟩
theorem same75 : RowSame Try.prog 75 fx75 := fun fn h => by rw [Try.func75] at h; cases h; exact ⟨rfl, rfl⟩
theorem same76 : RowSame Try.prog 76 fx76 := fun fn h => by rw [Try.func76] at h; cases h; exact ⟨rfl, rfl⟩
theorem same77 : RowSame Try.prog 77 fx77 := fun fn h => by rw [Try.func77] at h; cases h; exact ⟨rfl, rfl⟩
theorem same78 : RowSame Try.prog 78 fx78 := fun fn h => by rw [Try.func78] at h; cases h; exact ⟨rfl, rfl⟩
theorem same79 : RowSame Try.prog 79 fx79 := fun fn h => by rw [Try.func79] at h; cases h; exact ⟨rfl, rfl⟩
theorem same80 : RowSame Try.prog 80 fx80 := fun fn h => by rw [Try.func80] at h; cases h; exact ⟨rfl, rfl⟩
theorem same81 : RowSame Try.prog 81 fx81 := fun fn h => by rw [Try.func81] at h; cases h; exact ⟨rfl, rfl⟩
theorem same82 : RowSame Try.prog 82 fx82 := fun fn h => by rw [Try.func82] at h; cases h; exact ⟨rfl, rfl⟩
theorem same83 : RowSame Try.prog 83 fx83 := fun fn h => by rw [Try.func83] at h; cases h; exact ⟨rfl, rfl⟩
theorem same : ∀ p ∈ funcs.rows, RowSame Try.prog p.1 p.2 := by
  have e : funcs.rows = [(2, fx2), (3, fx3), (4, fx4), (5, fx5), (6, fx6), (7, fx7), (8, fx8), (9, fx9), (10, fx10), (11, fx11), (12, fx12), (13, fx13), (14, fx14), (15, fx15), (16, fx16), (17, fx17), (18, fx18), (19, fx19), (20, fx20), (21, fx21), (22, fx22), (23, fx23), (24, fx24), (25, fx25), (26, fx26), (27, fx27), (28, fx28), (29, fx29), (30, fx30), (31, fx31), (32, fx32), (33, fx33), (34, fx34), (35, fx35), (36, fx36), (37, fx37), (38, fx38), (39, fx39), (40, fx40), (41, fx41), (42, fx42), (43, fx43), (44, fx44), (45, fx45), (46, fx46), (47, fx47), (48, fx48), (49, fx49), (50, fx50), (51, fx51), (52, fx52), (53, fx53), (55, fx55), (56, fx56), (57, fx57), (58, fx58), (59, fx59), (60, fx60), (61, fx61), (62, fx62), (63, fx63), (64, fx64), (65, fx65), (66, fx66), (67, fx67), (68, fx68), (69, fx69), (70, fx70), (71, fx71), (72, fx72), (73, fx73), (74, fx74), (75, fx75), (76, fx76), (77, fx77), (78, fx78), (79, fx79), (80, fx80), (81, fx81), (82, fx82), (83, fx83)] := rfl
  rw [e]
  simp only [List.mem_cons, List.mem_nil_iff, or_false]
  rintro p (rfl | rfl | rfl | rfl | rfl | rfl | rfl | rfl | rfl | rfl | rfl | rfl | rfl | rfl | rfl | rfl | rfl | rfl | rfl | rfl | rfl | rfl | rfl | rfl | rfl | rfl | rfl | rfl | rfl | rfl | rfl | rfl | rfl | rfl | rfl | rfl | rfl | rfl | rfl | rfl | rfl | rfl | rfl | rfl | rfl | rfl | rfl | rfl | rfl | rfl | rfl | rfl | rfl | rfl | rfl | rfl | rfl | rfl | rfl | rfl | rfl | rfl | rfl | rfl | rfl | rfl | rfl | rfl | rfl | rfl | rfl | rfl | rfl | rfl | rfl | rfl | rfl | rfl | rfl | rfl | rfl)
  · exact same2
  · exact same3
  · exact same4
  · exact same5
  · exact same6
  · exact same7
  · exact same8
  · exact same9
  · exact same10
  · exact same11
  · exact same12
  · exact same13
  · exact same14
  · exact same15
  · exact same16
  · exact same17
  · exact same18
  · exact same19
  · exact same20
  · exact same21
  · exact same22
  · exact same23
  · exact same24
  · exact same25
  · exact same26
  · exact same27
  · exact same28
  · exact same29
  · exact same30
  · exact same31
  · exact same32
  · exact same33
  · exact same34
  · exact same35
  · exact same36
  · exact same37
  · exact same38
  · exact same39
  · exact same40
  · exact same41
  · exact same42
  · exact same43
  · exact same44
  · exact same45
  · exact same46
  · exact same47
  · exact same48
  · exact same49
  · exact same50
  · exact same51
  · exact same52
  · exact same53
  · exact same55
  · exact same56
  · exact same57
  · exact same58
  · exact same59
  · exact same60
  · exact same61
  · exact same62
  · exact same63
  · exact same64
  · exact same65
  · exact same66
  · exact same67
  · exact same68
  · exact same69
  · exact same70
  · exact same71
  · exact same72
  · exact same73
  · exact same74
  · exact same75
  · exact same76
  · exact same77
  · exact same78
  · exact same79
  · exact same80
  · exact same81
  · exact same82
  · exact same83
theorem tab : TabOK Try.prog T sr funcs := ⟨T_eq, sr_eq, names, mixed, fun p hp => List.all_eq_true.mp rows p hp, same⟩
end Go.Ev.Tab
