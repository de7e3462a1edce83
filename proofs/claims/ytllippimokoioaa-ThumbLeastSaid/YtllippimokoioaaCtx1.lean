import Derived.Test.YtllippimokoioaaProg
import Derived.Test.YtllippimokoioaaDen31
set_option linter.unusedVariables false
set_option maxRecDepth 100000
namespace Go.Den
open Go.Proofs

def tiTab : List (Option TI) := [
  none,
  some ⟨[.sc .nilFunc], 8, .func⟩,
  some ⟨[.sc (.int .i64 0)], 8, .int .i64⟩,
  some ⟨[.sc (.int .i64 0)], 8, .int .i64⟩,
  some ⟨[.sc (.bool false)], 1, .bool⟩,
  some ⟨[.sc (.int .u8 0)], 1, .int .u8⟩,
  some ⟨[.sc (.int .u8 0)], 1, .int .u8⟩,
  some ⟨[.sc (.int .i64 0), .sc (.int .i64 0), .sc (.bool false), .sc (.int .u8 0)], 24, .struct [(2, 0), (3, 1), (4, 2), (6, 3)]⟩,
  some ⟨[.sc (.int .i64 0), .sc (.int .i64 0), .sc (.bool false), .sc (.int .u8 0)], 24, .struct [(2, 0), (3, 1), (4, 2), (6, 3)]⟩,
  some ⟨[.sc (.string ⟨#[]⟩)], 16, .string⟩,
  some ⟨[.sc (.string ⟨#[]⟩)], 16, .string⟩,
  some ⟨[.sc (.string ⟨#[]⟩)], 16, .string⟩,
  some ⟨[.sc (.int .u64 0)], 8, .int .u64⟩,
  some ⟨[.sc (.string ⟨#[]⟩), .sc (.int .u64 0)], 24, .struct [(9, 0), (12, 1)]⟩,
  some ⟨[.sc (.string ⟨#[]⟩), .sc (.int .u64 0)], 24, .struct [(9, 0), (12, 1)]⟩,
  some ⟨[.sc (.pointer none)], 8, .pointer 118⟩,
  some ⟨[.sc (.pointer none)], 8, .pointer 121⟩,
  some ⟨[.sc (.pointer none)], 8, .pointer 129⟩,
  some ⟨[.sc (.pointer none)], 8, .struct [(17, 0)]⟩,
  some ⟨[.sc (.pointer none)], 8, .struct [(17, 0)]⟩,
  some ⟨[.sc .nilIface], 16, .iface⟩,
  some ⟨[.sc (.int .i32 0)], 4, .int .i32⟩,
  some ⟨[.sc (.int .u32 0)], 4, .int .u32⟩,
  some ⟨[.sc .nilFunc], 8, .func⟩,
  some ⟨[.sc .nilFunc], 8, .func⟩,
  some ⟨[.sc .nilFunc], 8, .func⟩,
  some ⟨[.sc .nilFunc], 8, .func⟩,
  some ⟨[.sc .nilFunc], 8, .func⟩,
  some ⟨[.sc .nilFunc], 8, .func⟩,
  some ⟨[.sc .nilFunc], 8, .func⟩,
  some ⟨[.sc .nilFunc], 8, .func⟩,
  some ⟨[.sc (.int .u64 0)], 8, .int .u64⟩,
  some ⟨[.sl true 0 []], 24, .slice 4⟩,
  some ⟨[.sc .nilFunc], 8, .func⟩,
  some ⟨[.sc (.int .u16 0)], 2, .int .u16⟩,
  some ⟨[.sc .nilFunc], 8, .func⟩,
  some ⟨[.sl true 0 []], 24, .slice 34⟩,
  some ⟨[.sc .nilFunc], 8, .func⟩,
  some ⟨[.sc (.int .i64 0), .sc (.bool false), .sc (.bool false), .sc (.int .i64 0), .sc (.int .i64 0), .sc (.int .i64 0), .sc (.int .i64 0), .sc (.int .i64 0), .sc (.int .u32 0), .sc (.bool false), .sc (.int .i64 0), .sc (.int .i64 0), .sc (.int .i64 0), .sc (.bool false), .sc (.bool false)], 96, .struct [(3, 0), (4, 1), (4, 2), (3, 3), (3, 4), (3, 5), (3, 6), (3, 7), (22, 8), (4, 9), (3, 10), (3, 11), (3, 12), (4, 13), (4, 14)]⟩,
  some ⟨[.sc (.int .i64 0), .sc (.bool false), .sc (.bool false), .sc (.int .i64 0), .sc (.int .i64 0), .sc (.int .i64 0), .sc (.int .i64 0), .sc (.int .i64 0), .sc (.int .u32 0), .sc (.bool false), .sc (.int .i64 0), .sc (.int .i64 0), .sc (.int .i64 0), .sc (.bool false), .sc (.bool false)], 96, .struct [(3, 0), (4, 1), (4, 2), (3, 3), (3, 4), (3, 5), (3, 6), (3, 7), (22, 8), (4, 9), (3, 10), (3, 11), (3, 12), (4, 13), (4, 14)]⟩,
  some ⟨[.sc .nilFunc], 8, .func⟩,
  some ⟨[.sc .nilFunc], 8, .func⟩,
  none,
  some ⟨[.sc .nilFunc], 8, .func⟩,
  some ⟨[.sc .nilFunc], 8, .func⟩,
  some ⟨[.sc .nilFunc], 8, .func⟩,
  some ⟨[.sc .nilFunc], 8, .func⟩,
  some ⟨[.sl true 0 []], 24, .slice 54⟩,
  some ⟨[.sl true 0 []], 24, .slice 83⟩,
  some ⟨[.sl true 0 []], 24, .slice 3⟩,
  some ⟨[.sl true 0 []], 24, .slice 56⟩,
  some ⟨[.sl true 0 []], 24, .slice 57⟩,
  none,
  some ⟨[.sc .nilFunc], 8, .func⟩,
  some ⟨[.sc (.int .i64 0), .sc (.int .i64 0)], 16, .array 2 3⟩,
  some ⟨[.sc (.int .i64 0), .sc (.int .i64 0)], 16, .struct [(3, 0), (3, 1)]⟩,
  some ⟨[.sc (.int .i64 0), .sc (.int .i64 0)], 16, .struct [(3, 0), (3, 1)]⟩,
  some ⟨[.sc (.int .i64 0), .sc (.int .i64 0)], 16, .struct [(3, 0), (3, 1)]⟩,
  none,
  some ⟨[.sc .nilFunc], 8, .func⟩,
  some ⟨[.sc .nilFunc], 8, .func⟩,
  some ⟨[.sc .nilFunc], 8, .func⟩,
  some ⟨[.sc .nilFunc], 8, .func⟩,
  some ⟨[.sc .nilFunc], 8, .func⟩,
  some ⟨[.sc .nilFunc], 8, .func⟩,
  some ⟨[.sc .nilFunc], 8, .func⟩,
  some ⟨[.sc .nilFunc], 8, .func⟩,
  none,
  some ⟨[.sc .nilFunc], 8, .func⟩,
  some ⟨[.sl true 0 []], 24, .slice 9⟩,
  some ⟨[.sc .nilFunc], 8, .func⟩,
  some ⟨[.sc .nilFunc], 8, .func⟩,
  some ⟨[.sc (.int .u32 0), .sc (.bool false)], 8, .struct [(22, 0), (4, 1)]⟩,
  some ⟨[.sc (.int .u32 0), .sc (.bool false)], 8, .struct [(22, 0), (4, 1)]⟩,
  some ⟨[.sc .nilFunc], 8, .func⟩,
  some ⟨[.sc .nilFunc], 8, .func⟩,
  some ⟨[.sc .nilFunc], 8, .func⟩,
  some ⟨[.sc .nilFunc], 8, .func⟩,
  some ⟨[.sc .nilFunc], 8, .func⟩,
  some ⟨[.sc .nilFunc], 8, .func⟩,
  some ⟨[.sc .nilFunc], 8, .func⟩,
  some ⟨[.sc .nilFunc], 8, .func⟩,
  some ⟨[.sc .nilFunc], 8, .func⟩,
  some ⟨[.sc (.int .u8 0), .sc (.int .u8 0)], 2, .array 2 5⟩,
  some ⟨[.sc (.pointer none)], 8, .pointer 85⟩,
  some ⟨[.sl true 0 []], 24, .slice 3⟩,
  some ⟨[.sc .nilFunc], 8, .func⟩,
  some ⟨[.sc .nilFunc], 8, .func⟩,
  some ⟨[.sc .nilFunc], 8, .func⟩,
  some ⟨[.sc .nilFunc], 8, .func⟩,
  some ⟨[.sc .nilFunc], 8, .func⟩,
  none,
  some ⟨[.sc .nilFunc], 8, .func⟩,
  some ⟨[.sc .nilFunc], 8, .func⟩,
  some ⟨[.sc .nilFunc], 8, .func⟩,
  some ⟨[.sc (.int .i64 0), .sc (.int .i64 0), .sc (.int .i64 0), .sc (.int .i64 0), .sc (.int .i64 0), .sc (.int .i64 0), .sc (.int .i64 0), .sc (.int .i64 0), .sc (.int .i64 0), .sc (.int .i64 0), .sc (.int .i64 0), .sc (.int .i64 0), .sc (.int .i64 0), .sc (.int .i64 0), .sc (.int .i64 0), .sc (.int .i64 0), .sc (.int .i64 0), .sc (.int .i64 0), .sc (.int .i64 0), .sc (.int .i64 0), .sc (.int .i64 0), .sc (.int .i64 0), .sc (.int .i64 0), .sc (.int .i64 0), .sc (.int .i64 0), .sc (.int .i64 0), .sc (.int .i64 0), .sc (.int .i64 0), .sc (.int .i64 0), .sc (.int .i64 0), .sc (.int .i64 0), .sc (.int .i64 0), .sc (.int .i64 0), .sc (.int .i64 0), .sc (.int .i64 0), .sc (.int .i64 0), .sc (.int .i64 0), .sc (.int .i64 0), .sc (.int .i64 0), .sc (.int .i64 0), .sc (.int .i64 0), .sc (.int .i64 0), .sc (.int .i64 0), .sc (.int .i64 0), .sc (.int .i64 0), .sc (.int .i64 0), .sc (.int .i64 0), .sc (.int .i64 0), .sc (.int .i64 0), .sc (.int .i64 0), .sc (.int .i64 0), .sc (.int .i64 0), .sc (.int .i64 0), .sc (.int .i64 0), .sc (.int .i64 0), .sc (.int .i64 0), .sc (.int .i64 0), .sc (.int .i64 0), .sc (.int .i64 0), .sc (.int .i64 0), .sc (.int .i64 0), .sc (.int .i64 0), .sc (.int .i64 0), .sc (.int .i64 0)], 512, .array 64 3⟩,
  some ⟨[.sc .nilFunc], 8, .func⟩,
  some ⟨[.sc .nilFunc], 8, .func⟩,
  some ⟨[.sc .nilFunc], 8, .func⟩,
  some ⟨[.sc .nilFunc], 8, .func⟩,
  some ⟨[.sc (.int .u64 0)], 8, .int .u64⟩,
  some ⟨[.sc .nilIface], 16, .iface⟩,
  some ⟨[.sc .nilIface], 16, .iface⟩,
  some ⟨[.sc .nilFunc], 8, .func⟩,
  some ⟨[.sc .nilFunc], 8, .func⟩,
  some ⟨[.sc .nilFunc], 8, .func⟩,
  some ⟨[.sc .nilFunc], 8, .func⟩,
  some ⟨[.sc .nilFunc], 8, .func⟩,
  some ⟨[.sc .nilFunc], 8, .func⟩,
  some ⟨[.sc .nilFunc], 8, .func⟩,
  some ⟨[.sc .nilFunc], 8, .func⟩,
  some ⟨[.sc .nilFunc], 8, .func⟩,
  some ⟨[.sc .nilFunc], 8, .func⟩,
  some ⟨[.sc .nilFunc], 8, .func⟩,
  some ⟨[.sc .nilFunc], 8, .func⟩,
  some ⟨[.sc .nilFunc], 8, .func⟩,
  some ⟨[.sc .nilFunc], 8, .func⟩,
  some ⟨[.sc (.pointer none), .sc (.pointer none), .sc (.pointer none), .sc (.string ⟨#[]⟩)], 40, .struct [(17, 0), (17, 1), (17, 2), (9, 3)]⟩,
  some ⟨[.sc (.pointer none), .sc (.pointer none), .sc (.pointer none), .sc (.string ⟨#[]⟩)], 40, .struct [(17, 0), (17, 1), (17, 2), (9, 3)]⟩,
  some ⟨[], 0, .array 0 16⟩,
  some ⟨[], 0, .struct [(119, 0)]⟩,
  some ⟨[], 0, .struct [(119, 0)]⟩,
  some ⟨[.sc (.int .u8 0)], 1, .int .u8⟩,
  some ⟨[.sc (.int .u8 0)], 1, .int .u8⟩,
  some ⟨[.sc .nilFunc], 8, .func⟩,
  some ⟨[.sc (.pointer none)], 8, .pointer 5⟩,
  some ⟨[.sc (.int .i32 0)], 4, .int .i32⟩,
  some ⟨[.sc (.int .i32 0)], 4, .int .i32⟩,
  some ⟨[.sc (.int .u64 0), .sc (.int .u64 0), .sc (.int .u32 0), .sc (.int .u8 0), .sc (.int .u8 0), .sc (.int .u8 0), .sc (.int .u8 0), .sc .nilFunc, .sc (.pointer none), .sc (.int .i32 0), .sc (.int .i32 0)], 48, .struct [(12, 0), (12, 1), (22, 2), (122, 3), (5, 4), (5, 5), (123, 6), (124, 7), (125, 8), (126, 9), (127, 10)]⟩,
  some ⟨[.sc (.int .u64 0), .sc (.int .u64 0), .sc (.int .u32 0), .sc (.int .u8 0), .sc (.int .u8 0), .sc (.int .u8 0), .sc (.int .u8 0), .sc .nilFunc, .sc (.pointer none), .sc (.int .i32 0), .sc (.int .i32 0)], 48, .struct [(12, 0), (12, 1), (22, 2), (122, 3), (5, 4), (5, 5), (123, 6), (124, 7), (125, 8), (126, 9), (127, 10)]⟩,
  none]

def eqTab : List TypeId := [39]

def hints : List (FuncId × Hint) := [
  (3, ⟨.z, [0, 1, 2, 3, 4, 10, 11, 12, 14, 16, 20, 29], [], [], true⟩),
  (4, ⟨.z, [0, 1, 2, 3, 4, 5, 12, 13, 14, 16, 25], [], [], true⟩),
  (5, ⟨.z, [0, 1, 4, 5, 6, 7, 8, 9, 10, 11, 12, 13, 15, 71, 81, 83, 94], [(7, 13), (8, 19), (12, 3), (17, 4)], [], true⟩),
  (6, ⟨.z, [0, 1, 2, 6, 7, 9, 11, 13, 34, 35, 36, 37, 58], [], [], true⟩),
  (7, ⟨.z, [0, 1, 2, 3, 5, 8, 10, 11, 12, 13, 14, 15, 16, 18, 23, 24, 25, 26, 63, 72], [], [], true⟩),
  (8, ⟨.z, [0, 1, 2, 3, 4, 8, 9, 10, 11, 12, 13, 15, 17], [], [], true⟩),
  (9, ⟨.z, [0, 2, 3, 4, 5, 7, 24, 56], [], [], true⟩),
  (10, ⟨.z, [0, 1, 4, 5, 6, 7, 8, 9, 10, 11, 13, 59], [(4, 7), (5, 5)], [], true⟩),
  (11, ⟨.z, [0, 1, 2, 3, 8, 9, 10, 11, 12, 13, 15, 16, 17, 18, 19, 20, 21, 22, 23, 25, 38, 47, 81, 82, 83, 84, 155], [(5, 1), (5, 5), (5, 6), (11, 0), (11, 11), (11, 13), (11, 14), (11, 25), (11, 27), (11, 28), (11, 29), (15, 2), (15, 6), (16, 2), (16, 6), (17, 2), (17, 6), (18, 2), (18, 6), (19, 0), (19, 2), (19, 10), (19, 12), (19, 24), (19, 28), (19, 35), (19, 42)], [], true⟩),
  (12, ⟨.z, [0, 1, 4, 5, 7, 8, 9, 10, 11, 12, 13, 14, 15, 16, 18, 21, 41, 43, 49, 67, 72, 108, 115, 130, 148], [(5, 1), (5, 5), (5, 6), (7, 2), (7, 6)], [], true⟩),
  (13, ⟨.z, [0, 1, 4, 5, 7, 9, 11, 12, 13, 15, 18, 43, 56], [(5, 1), (5, 5), (5, 6), (7, 2), (7, 6), (8, 3), (8, 7)], [], true⟩),
  (14, ⟨.z, [0, 1, 4, 5, 6, 7, 8, 9, 10, 11, 12, 13, 14, 16, 27, 77, 80, 100], [(8, 0), (8, 4), (8, 6), (8, 7), (9, 0), (9, 4), (9, 6), (9, 7), (10, 2), (10, 6), (11, 2), (11, 6), (19, 3), (19, 8)], [], true⟩),
  (15, ⟨.z, [0, 1, 2, 4], [(1, 4), (2, 4)], [], true⟩),
  (16, ⟨.z, [0, 1, 4, 5, 6, 7, 8, 9, 23, 24, 27, 30, 33, 36, 43, 48, 57], [], [], true⟩),
  (17, ⟨.z, [0, 1, 4, 5, 6, 7, 8, 9, 27], [(4, 20), (5, 0)], [], true⟩),
  (18, ⟨.z, [0, 2, 8], [], [], true⟩),
  (19, ⟨.z, [0, 2, 8], [], [], true⟩),
  (20, ⟨.z, [0, 2, 8], [], [], true⟩),
  (21, ⟨.z, [0, 2, 8], [], [], true⟩),
  (22, ⟨.z, [0, 1, 2, 6], [], [], true⟩),
  (23, ⟨.z, [0, 1, 2, 6], [], [], true⟩),
  (24, ⟨.z, [0, 1, 2, 3, 8, 9, 10, 11, 16, 17, 18, 19, 23], [], [], true⟩),
  (25, ⟨.z, [0, 1, 2, 3, 8, 9, 10, 13, 16, 19], [], [], true⟩),
  (26, ⟨.z, [0, 1, 2, 3, 5], [], [], true⟩),
  (27, ⟨.z, [0, 1, 4, 5, 6, 7, 16, 17, 30, 38, 45, 52, 59, 69, 78, 87, 96, 110, 119, 123, 132, 141, 153, 170, 187, 203, 208, 213, 219, 225, 234, 243, 255, 260, 265, 276], [], [], true⟩),
  (28, ⟨.z, [0, 2], [], [], true⟩),
  (29, ⟨.z, [0, 2], [], [], true⟩),
  (30, ⟨.z, [0, 1, 4, 5, 6, 14, 19, 24, 29, 34, 43, 48, 57, 66], [(1, 4)], [], true⟩),
  (31, ⟨.z, [0, 1, 4, 5, 6, 7, 8, 9, 10, 11, 12, 13, 14, 15, 16, 17, 19, 46, 47, 50, 51, 63, 67, 79, 90, 104, 110, 115, 129, 134, 140, 154, 168, 181, 195, 208, 214, 220, 226, 257, 265], [], [], true⟩),
  (32, ⟨.z, [0, 1, 2, 4, 5, 6, 18, 19, 20, 27], [], [], true⟩),
  (33, ⟨.z, [0, 1, 2, 4, 5, 6, 7, 8, 20, 27, 42, 50], [(3, 3)], [], true⟩),
  (34, ⟨.z, [0, 1, 2, 3, 4, 5], [(1, 4), (2, 1), (2, 5), (3, 1), (3, 5), (4, 2), (4, 8), (4, 10), (4, 19), (4, 24)], [], true⟩),
  (35, ⟨.z, [0, 2, 3, 4, 5, 6, 7, 8, 12], [(8, 0), (8, 3), (8, 5), (8, 6), (8, 9), (8, 11), (8, 12), (8, 13), (9, 2), (9, 3)], [], true⟩),
  (37, ⟨.z, [0, 1, 4, 5, 6, 7, 8, 9, 10, 11, 12, 13, 14, 15, 16, 17, 18, 27, 38, 49, 71, 77, 80, 91, 127, 131, 152, 172], [(2, 3), (8, 1), (8, 2), (27, 27), (38, 2)], [(2, 2)], true⟩),
  (38, ⟨.z, [0, 1, 4, 5, 10, 14, 25], [], [], true⟩),
  (39, ⟨.z, [0, 1, 2, 6, 7, 8, 9, 10, 15, 19, 20, 21, 22, 52, 55, 56, 57, 58, 90], [], [], true⟩),
  (40, ⟨.z, [0, 1, 2, 6, 7, 8, 9, 16, 20, 56, 59, 102], [], [], true⟩),
  (41, ⟨.z, [0, 1, 4, 5, 6, 7, 8, 32, 40, 50], [(3, 2), (10, 0), (10, 3), (10, 4), (11, 1)], [], true⟩),
  (42, ⟨.z, [0, 1, 4], [], [], true⟩),
  (43, ⟨.z, [0, 2, 3, 4, 12], [], [], true⟩),
  (44, ⟨.z, [0, 1, 2, 3, 6], [], [], true⟩),
  (45, ⟨.z, [0, 1, 2], [(1, 2)], [], true⟩),
  (46, ⟨.z, [0, 1, 2, 3, 4, 5, 6, 7, 8, 20, 21, 23, 32, 41, 52, 63, 72, 87, 95, 101], [], [], true⟩),
  (47, ⟨.z, [0, 1, 2, 3, 4, 5, 6, 17, 18, 26, 34, 43], [], [], true⟩),
  (48, ⟨.z, [0, 1, 2, 3, 4, 14, 15, 22, 29, 44, 50, 57, 69], [], [], true⟩),
  (49, ⟨.z, [0, 1, 2, 3, 4, 10], [(1, 6)], [], true⟩),
  (50, ⟨.z, [0, 1, 2, 3, 4, 5, 6, 7, 19, 20, 31, 42, 52], [], [], true⟩),
  (51, ⟨.z, [0, 1, 2, 3, 4, 5, 6, 15, 28, 39, 57, 69, 90, 99, 108, 125, 132], [(8, 14), (21, 2)], [], true⟩),
  (52, ⟨.z, [0, 1, 2, 3, 4, 5, 6, 17, 18, 24, 30, 33, 41, 52, 58, 63], [(13, 6), (16, 2), (21, 7)], [], true⟩),
  (53, ⟨.z, [0, 2, 3], [], [], true⟩),
  (54, ⟨.z, [0, 2, 3], [], [], true⟩),
  (55, ⟨.z, [0, 1, 2, 3, 4, 10, 11], [], [], true⟩),
  (56, ⟨.z, [0, 1, 2, 3, 4, 10, 11], [], [], true⟩),
  (57, ⟨.z, [0, 1, 4, 5, 6, 7, 16, 23, 24, 32, 40, 49, 75, 76, 83, 91, 106, 113, 120, 133], [], [], true⟩),
  (58, ⟨.z, [0, 1, 4, 5, 6, 7, 8, 9, 10, 11, 13, 23, 24, 36, 60, 64, 75, 109, 113, 118, 130, 137, 146, 164], [(40, 9)], [], true⟩),
  (59, ⟨.z, [0, 2], [(1, 1)], [], true⟩),
  (60, ⟨.z, [0, 1, 4, 5, 6, 7, 14, 19, 27], [], [], true⟩),
  (61, ⟨.z, [0, 1, 4, 5, 6, 16], [], [], true⟩),
  (62, ⟨.z, [0, 2, 3, 4, 7, 10, 13, 16, 19, 22, 25, 30, 37, 40, 56], [(3, 1), (5, 1), (7, 1), (9, 1), (11, 1), (13, 1), (15, 1), (19, 1), (25, 1), (27, 1), (42, 1), (45, 1), (46, 1)], [], true⟩),
  (63, ⟨.n, [0, 1], [], [], true⟩),
  (64, ⟨.z, [0, 1, 2, 3, 4, 5, 6, 7, 8, 9, 17], [(6, 0), (6, 3), (6, 4), (8, 2), (9, 1)], [], true⟩),
  (65, ⟨.n, [0, 1, 4, 5, 6, 7, 12, 19, 29], [(1, 2), (3, 1), (12, 3)], [], true⟩),
  (67, ⟨.n, [0, 2], [], [], true⟩),
  (68, ⟨.n, [0, 2, 3], [], [], true⟩),
  (69, ⟨.z, [0, 1, 2, 6, 7, 16], [(3, 1), (5, 3), (5, 6), (5, 7), (7, 1)], [], true⟩),
  (70, ⟨.z, [0, 1, 4, 5, 6, 7, 8, 9, 10, 11, 26], [], [], true⟩),
  (71, ⟨.z, [0, 2], [], [], true⟩),
  (72, ⟨.z, [0, 2, 3, 4, 5, 9, 22, 77], [(9, 3), (9, 6), (9, 7), (9, 10), (9, 11), (10, 1)], [], true⟩),
  (73, ⟨.z, [0, 1, 2, 6, 7, 11, 19, 25], [], [], true⟩),
  (74, ⟨.z, [0, 2], [], [], true⟩),
  (75, ⟨.z, [0, 1, 2], [(1, 2)], [], true⟩),
  (76, ⟨.z, [0, 1, 2, 3, 4, 10], [(1, 5)], [], true⟩),
  (77, ⟨.z, [0, 1, 2, 3, 4, 10], [(1, 5)], [], true⟩),
  (78, ⟨.z, [0, 1, 2, 3, 4, 6, 12, 28], [(3, 2), (4, 6), (7, 5)], [], true⟩),
  (79, ⟨.z, [0, 1, 4, 5, 6, 7, 8, 42, 47, 54, 63], [(6, 2), (11, 0), (11, 3), (11, 4), (12, 0), (12, 4), (12, 5), (13, 1)], [], true⟩),
  (80, ⟨.z, [0, 1, 4, 5], [], [], true⟩),
  (81, ⟨.n, [0, 1, 4, 17], [], [], true⟩),
  (82, ⟨.n, [0, 1], [(0, 4)], [], true⟩),
  (83, ⟨.n, [0, 1, 2, 5], [(1, 23)], [], true⟩),
  (84, ⟨.z, [0, 2, 3, 5, 6, 7, 8, 9, 14], [], [], true⟩),
  (85, ⟨.z, [0, 1, 4, 5, 6, 11, 12, 13, 16, 19], [], [], true⟩),
  (86, ⟨.n, [0, 1, 4, 5, 7, 8, 9, 16], [], [], true⟩),
  (87, ⟨.n, [0, 1, 2, 6, 7, 8, 9, 10, 21, 33, 39], [], [], true⟩),
  (88, ⟨.z, [0, 2], [], [], true⟩),
  (89, ⟨.z, [0, 2], [], [], true⟩),
  (90, ⟨.n, [0, 1, 2, 6, 7, 8, 9, 13, 30, 35, 54], [(3, 4), (6, 4), (10, 7), (15, 5)], [], true⟩),
  (91, ⟨.z, [0, 2], [], [], true⟩),
  (92, ⟨.n, [0, 1, 2, 3, 8, 9, 14, 34], [], [], true⟩),
  (93, ⟨.n, [0, 1, 2, 3, 4, 10, 11, 12, 13, 14, 15, 16, 17, 18, 19, 20, 21, 22, 23, 24, 28, 33, 50, 58, 80, 85, 103, 110, 140, 151, 171, 185, 199, 213], [(40, 5), (42, 5), (44, 5)], [], true⟩),
  (94, ⟨.n, [0, 1, 2, 3, 4, 10, 11, 20, 23], [(4, 7), (6, 11), (8, 7)], [], true⟩),
  (95, ⟨.n, [0, 1, 2, 3, 10, 13], [], [], true⟩)]

noncomputable def ctx : Ctx := ⟨Try.prog, fun t => (tiTab[t]?).join, fun t => eqTab.contains t, hintOf hints, 70000⟩

theorem ctx_ok : CtxOK ctx := ctxOK_of (C := ctx) 131 tiTab rfl (by kernel_rfl) (by kernel_rfl) eqTab rfl (by kernel_rfl) (by kernel_rfl) (by kernel_rfl)
theorem codes_ok : CodesOK ctx := codesOK_of (C := ctx) hints rfl (by kernel_rfl)

theorem ti_1 : ctx.ti 1 = some ⟨[.sc .nilFunc], 8, .func⟩ := rfl
theorem ti_2 : ctx.ti 2 = some ⟨[.sc (.int .i64 0)], 8, .int .i64⟩ := rfl
theorem ti_3 : ctx.ti 3 = some ⟨[.sc (.int .i64 0)], 8, .int .i64⟩ := rfl
theorem ti_4 : ctx.ti 4 = some ⟨[.sc (.bool false)], 1, .bool⟩ := rfl
theorem ti_5 : ctx.ti 5 = some ⟨[.sc (.int .u8 0)], 1, .int .u8⟩ := rfl
theorem ti_6 : ctx.ti 6 = some ⟨[.sc (.int .u8 0)], 1, .int .u8⟩ := rfl
theorem ti_7 : ctx.ti 7 = some ⟨[.sc (.int .i64 0), .sc (.int .i64 0), .sc (.bool false), .sc (.int .u8 0)], 24, .struct [(2, 0), (3, 1), (4, 2), (6, 3)]⟩ := rfl
theorem ti_8 : ctx.ti 8 = some ⟨[.sc (.int .i64 0), .sc (.int .i64 0), .sc (.bool false), .sc (.int .u8 0)], 24, .struct [(2, 0), (3, 1), (4, 2), (6, 3)]⟩ := rfl
theorem ti_9 : ctx.ti 9 = some ⟨[.sc (.string ⟨#[]⟩)], 16, .string⟩ := rfl
theorem ti_10 : ctx.ti 10 = some ⟨[.sc (.string ⟨#[]⟩)], 16, .string⟩ := rfl
theorem ti_11 : ctx.ti 11 = some ⟨[.sc (.string ⟨#[]⟩)], 16, .string⟩ := rfl
theorem ti_12 : ctx.ti 12 = some ⟨[.sc (.int .u64 0)], 8, .int .u64⟩ := rfl
theorem ti_13 : ctx.ti 13 = some ⟨[.sc (.string ⟨#[]⟩), .sc (.int .u64 0)], 24, .struct [(9, 0), (12, 1)]⟩ := rfl
theorem ti_14 : ctx.ti 14 = some ⟨[.sc (.string ⟨#[]⟩), .sc (.int .u64 0)], 24, .struct [(9, 0), (12, 1)]⟩ := rfl
theorem ti_15 : ctx.ti 15 = some ⟨[.sc (.pointer none)], 8, .pointer 118⟩ := rfl
theorem ti_16 : ctx.ti 16 = some ⟨[.sc (.pointer none)], 8, .pointer 121⟩ := rfl
theorem ti_17 : ctx.ti 17 = some ⟨[.sc (.pointer none)], 8, .pointer 129⟩ := rfl
theorem ti_18 : ctx.ti 18 = some ⟨[.sc (.pointer none)], 8, .struct [(17, 0)]⟩ := rfl
theorem ti_19 : ctx.ti 19 = some ⟨[.sc (.pointer none)], 8, .struct [(17, 0)]⟩ := rfl
theorem ti_20 : ctx.ti 20 = some ⟨[.sc .nilIface], 16, .iface⟩ := rfl
theorem ti_21 : ctx.ti 21 = some ⟨[.sc (.int .i32 0)], 4, .int .i32⟩ := rfl
theorem ti_22 : ctx.ti 22 = some ⟨[.sc (.int .u32 0)], 4, .int .u32⟩ := rfl
theorem ti_23 : ctx.ti 23 = some ⟨[.sc .nilFunc], 8, .func⟩ := rfl
theorem ti_24 : ctx.ti 24 = some ⟨[.sc .nilFunc], 8, .func⟩ := rfl
theorem ti_25 : ctx.ti 25 = some ⟨[.sc .nilFunc], 8, .func⟩ := rfl
theorem ti_26 : ctx.ti 26 = some ⟨[.sc .nilFunc], 8, .func⟩ := rfl
theorem ti_27 : ctx.ti 27 = some ⟨[.sc .nilFunc], 8, .func⟩ := rfl
theorem ti_28 : ctx.ti 28 = some ⟨[.sc .nilFunc], 8, .func⟩ := rfl
theorem ti_29 : ctx.ti 29 = some ⟨[.sc .nilFunc], 8, .func⟩ := rfl
theorem ti_30 : ctx.ti 30 = some ⟨[.sc .nilFunc], 8, .func⟩ := rfl
theorem ti_31 : ctx.ti 31 = some ⟨[.sc (.int .u64 0)], 8, .int .u64⟩ := rfl
theorem ti_32 : ctx.ti 32 = some ⟨[.sl true 0 []], 24, .slice 4⟩ := rfl
theorem ti_33 : ctx.ti 33 = some ⟨[.sc .nilFunc], 8, .func⟩ := rfl
theorem ti_34 : ctx.ti 34 = some ⟨[.sc (.int .u16 0)], 2, .int .u16⟩ := rfl
theorem ti_35 : ctx.ti 35 = some ⟨[.sc .nilFunc], 8, .func⟩ := rfl
theorem ti_36 : ctx.ti 36 = some ⟨[.sl true 0 []], 24, .slice 34⟩ := rfl
theorem ti_37 : ctx.ti 37 = some ⟨[.sc .nilFunc], 8, .func⟩ := rfl
theorem ti_38 : ctx.ti 38 = some ⟨[.sc (.int .i64 0), .sc (.bool false), .sc (.bool false), .sc (.int .i64 0), .sc (.int .i64 0), .sc (.int .i64 0), .sc (.int .i64 0), .sc (.int .i64 0), .sc (.int .u32 0), .sc (.bool false), .sc (.int .i64 0), .sc (.int .i64 0), .sc (.int .i64 0), .sc (.bool false), .sc (.bool false)], 96, .struct [(3, 0), (4, 1), (4, 2), (3, 3), (3, 4), (3, 5), (3, 6), (3, 7), (22, 8), (4, 9), (3, 10), (3, 11), (3, 12), (4, 13), (4, 14)]⟩ := rfl
theorem ti_39 : ctx.ti 39 = some ⟨[.sc (.int .i64 0), .sc (.bool false), .sc (.bool false), .sc (.int .i64 0), .sc (.int .i64 0), .sc (.int .i64 0), .sc (.int .i64 0), .sc (.int .i64 0), .sc (.int .u32 0), .sc (.bool false), .sc (.int .i64 0), .sc (.int .i64 0), .sc (.int .i64 0), .sc (.bool false), .sc (.bool false)], 96, .struct [(3, 0), (4, 1), (4, 2), (3, 3), (3, 4), (3, 5), (3, 6), (3, 7), (22, 8), (4, 9), (3, 10), (3, 11), (3, 12), (4, 13), (4, 14)]⟩ := rfl
theorem ti_40 : ctx.ti 40 = some ⟨[.sc .nilFunc], 8, .func⟩ := rfl
theorem ti_41 : ctx.ti 41 = some ⟨[.sc .nilFunc], 8, .func⟩ := rfl
theorem ti_43 : ctx.ti 43 = some ⟨[.sc .nilFunc], 8, .func⟩ := rfl
theorem ti_44 : ctx.ti 44 = some ⟨[.sc .nilFunc], 8, .func⟩ := rfl
theorem ti_45 : ctx.ti 45 = some ⟨[.sc .nilFunc], 8, .func⟩ := rfl
theorem ti_46 : ctx.ti 46 = some ⟨[.sc .nilFunc], 8, .func⟩ := rfl
theorem ti_47 : ctx.ti 47 = some ⟨[.sl true 0 []], 24, .slice 54⟩ := rfl
theorem ti_48 : ctx.ti 48 = some ⟨[.sl true 0 []], 24, .slice 83⟩ := rfl
theorem ti_49 : ctx.ti 49 = some ⟨[.sl true 0 []], 24, .slice 3⟩ := rfl
theorem ti_50 : ctx.ti 50 = some ⟨[.sl true 0 []], 24, .slice 56⟩ := rfl
theorem ti_51 : ctx.ti 51 = some ⟨[.sl true 0 []], 24, .slice 57⟩ := rfl
theorem ti_53 : ctx.ti 53 = some ⟨[.sc .nilFunc], 8, .func⟩ := rfl
theorem ti_54 : ctx.ti 54 = some ⟨[.sc (.int .i64 0), .sc (.int .i64 0)], 16, .array 2 3⟩ := rfl
theorem ti_55 : ctx.ti 55 = some ⟨[.sc (.int .i64 0), .sc (.int .i64 0)], 16, .struct [(3, 0), (3, 1)]⟩ := rfl
theorem ti_56 : ctx.ti 56 = some ⟨[.sc (.int .i64 0), .sc (.int .i64 0)], 16, .struct [(3, 0), (3, 1)]⟩ := rfl
theorem ti_57 : ctx.ti 57 = some ⟨[.sc (.int .i64 0), .sc (.int .i64 0)], 16, .struct [(3, 0), (3, 1)]⟩ := rfl
theorem ti_59 : ctx.ti 59 = some ⟨[.sc .nilFunc], 8, .func⟩ := rfl
theorem ti_60 : ctx.ti 60 = some ⟨[.sc .nilFunc], 8, .func⟩ := rfl
theorem ti_61 : ctx.ti 61 = some ⟨[.sc .nilFunc], 8, .func⟩ := rfl
theorem ti_62 : ctx.ti 62 = some ⟨[.sc .nilFunc], 8, .func⟩ := rfl
theorem ti_63 : ctx.ti 63 = some ⟨[.sc .nilFunc], 8, .func⟩ := rfl
theorem ti_64 : ctx.ti 64 = some ⟨[.sc .nilFunc], 8, .func⟩ := rfl
theorem ti_65 : ctx.ti 65 = some ⟨[.sc .nilFunc], 8, .func⟩ := rfl
theorem ti_66 : ctx.ti 66 = some ⟨[.sc .nilFunc], 8, .func⟩ := rfl
theorem ti_68 : ctx.ti 68 = some ⟨[.sc .nilFunc], 8, .func⟩ := rfl
theorem ti_69 : ctx.ti 69 = some ⟨[.sl true 0 []], 24, .slice 9⟩ := rfl
theorem ti_70 : ctx.ti 70 = some ⟨[.sc .nilFunc], 8, .func⟩ := rfl
theorem ti_71 : ctx.ti 71 = some ⟨[.sc .nilFunc], 8, .func⟩ := rfl
theorem ti_72 : ctx.ti 72 = some ⟨[.sc (.int .u32 0), .sc (.bool false)], 8, .struct [(22, 0), (4, 1)]⟩ := rfl
theorem ti_73 : ctx.ti 73 = some ⟨[.sc (.int .u32 0), .sc (.bool false)], 8, .struct [(22, 0), (4, 1)]⟩ := rfl
theorem ti_74 : ctx.ti 74 = some ⟨[.sc .nilFunc], 8, .func⟩ := rfl
theorem ti_75 : ctx.ti 75 = some ⟨[.sc .nilFunc], 8, .func⟩ := rfl
theorem ti_76 : ctx.ti 76 = some ⟨[.sc .nilFunc], 8, .func⟩ := rfl
theorem ti_77 : ctx.ti 77 = some ⟨[.sc .nilFunc], 8, .func⟩ := rfl
theorem ti_78 : ctx.ti 78 = some ⟨[.sc .nilFunc], 8, .func⟩ := rfl
theorem ti_79 : ctx.ti 79 = some ⟨[.sc .nilFunc], 8, .func⟩ := rfl
theorem ti_80 : ctx.ti 80 = some ⟨[.sc .nilFunc], 8, .func⟩ := rfl
theorem ti_81 : ctx.ti 81 = some ⟨[.sc .nilFunc], 8, .func⟩ := rfl
theorem ti_82 : ctx.ti 82 = some ⟨[.sc .nilFunc], 8, .func⟩ := rfl
theorem ti_83 : ctx.ti 83 = some ⟨[.sc (.int .u8 0), .sc (.int .u8 0)], 2, .array 2 5⟩ := rfl
theorem ti_84 : ctx.ti 84 = some ⟨[.sc (.pointer none)], 8, .pointer 85⟩ := rfl
theorem ti_85 : ctx.ti 85 = some ⟨[.sl true 0 []], 24, .slice 3⟩ := rfl
theorem ti_86 : ctx.ti 86 = some ⟨[.sc .nilFunc], 8, .func⟩ := rfl
theorem ti_87 : ctx.ti 87 = some ⟨[.sc .nilFunc], 8, .func⟩ := rfl
theorem ti_88 : ctx.ti 88 = some ⟨[.sc .nilFunc], 8, .func⟩ := rfl
theorem ti_89 : ctx.ti 89 = some ⟨[.sc .nilFunc], 8, .func⟩ := rfl
theorem ti_90 : ctx.ti 90 = some ⟨[.sc .nilFunc], 8, .func⟩ := rfl
theorem ti_92 : ctx.ti 92 = some ⟨[.sc .nilFunc], 8, .func⟩ := rfl
theorem ti_93 : ctx.ti 93 = some ⟨[.sc .nilFunc], 8, .func⟩ := rfl
theorem ti_94 : ctx.ti 94 = some ⟨[.sc .nilFunc], 8, .func⟩ := rfl
theorem ti_95 : ctx.ti 95 = some ⟨[.sc (.int .i64 0), .sc (.int .i64 0), .sc (.int .i64 0), .sc (.int .i64 0), .sc (.int .i64 0), .sc (.int .i64 0), .sc (.int .i64 0), .sc (.int .i64 0), .sc (.int .i64 0), .sc (.int .i64 0), .sc (.int .i64 0), .sc (.int .i64 0), .sc (.int .i64 0), .sc (.int .i64 0), .sc (.int .i64 0), .sc (.int .i64 0), .sc (.int .i64 0), .sc (.int .i64 0), .sc (.int .i64 0), .sc (.int .i64 0), .sc (.int .i64 0), .sc (.int .i64 0), .sc (.int .i64 0), .sc (.int .i64 0), .sc (.int .i64 0), .sc (.int .i64 0), .sc (.int .i64 0), .sc (.int .i64 0), .sc (.int .i64 0), .sc (.int .i64 0), .sc (.int .i64 0), .sc (.int .i64 0), .sc (.int .i64 0), .sc (.int .i64 0), .sc (.int .i64 0), .sc (.int .i64 0), .sc (.int .i64 0), .sc (.int .i64 0), .sc (.int .i64 0), .sc (.int .i64 0), .sc (.int .i64 0), .sc (.int .i64 0), .sc (.int .i64 0), .sc (.int .i64 0), .sc (.int .i64 0), .sc (.int .i64 0), .sc (.int .i64 0), .sc (.int .i64 0), .sc (.int .i64 0), .sc (.int .i64 0), .sc (.int .i64 0), .sc (.int .i64 0), .sc (.int .i64 0), .sc (.int .i64 0), .sc (.int .i64 0), .sc (.int .i64 0), .sc (.int .i64 0), .sc (.int .i64 0), .sc (.int .i64 0), .sc (.int .i64 0), .sc (.int .i64 0), .sc (.int .i64 0), .sc (.int .i64 0), .sc (.int .i64 0)], 512, .array 64 3⟩ := rfl
theorem ti_96 : ctx.ti 96 = some ⟨[.sc .nilFunc], 8, .func⟩ := rfl
theorem ti_97 : ctx.ti 97 = some ⟨[.sc .nilFunc], 8, .func⟩ := rfl
theorem ti_98 : ctx.ti 98 = some ⟨[.sc .nilFunc], 8, .func⟩ := rfl
theorem ti_99 : ctx.ti 99 = some ⟨[.sc .nilFunc], 8, .func⟩ := rfl
theorem ti_100 : ctx.ti 100 = some ⟨[.sc (.int .u64 0)], 8, .int .u64⟩ := rfl
theorem ti_101 : ctx.ti 101 = some ⟨[.sc .nilIface], 16, .iface⟩ := rfl
theorem ti_102 : ctx.ti 102 = some ⟨[.sc .nilIface], 16, .iface⟩ := rfl
theorem ti_103 : ctx.ti 103 = some ⟨[.sc .nilFunc], 8, .func⟩ := rfl
theorem ti_104 : ctx.ti 104 = some ⟨[.sc .nilFunc], 8, .func⟩ := rfl
theorem ti_105 : ctx.ti 105 = some ⟨[.sc .nilFunc], 8, .func⟩ := rfl
theorem ti_106 : ctx.ti 106 = some ⟨[.sc .nilFunc], 8, .func⟩ := rfl
theorem ti_107 : ctx.ti 107 = some ⟨[.sc .nilFunc], 8, .func⟩ := rfl
theorem ti_108 : ctx.ti 108 = some ⟨[.sc .nilFunc], 8, .func⟩ := rfl
theorem ti_109 : ctx.ti 109 = some ⟨[.sc .nilFunc], 8, .func⟩ := rfl
theorem ti_110 : ctx.ti 110 = some ⟨[.sc .nilFunc], 8, .func⟩ := rfl
theorem ti_111 : ctx.ti 111 = some ⟨[.sc .nilFunc], 8, .func⟩ := rfl
theorem ti_112 : ctx.ti 112 = some ⟨[.sc .nilFunc], 8, .func⟩ := rfl
theorem ti_113 : ctx.ti 113 = some ⟨[.sc .nilFunc], 8, .func⟩ := rfl
theorem ti_114 : ctx.ti 114 = some ⟨[.sc .nilFunc], 8, .func⟩ := rfl
theorem ti_115 : ctx.ti 115 = some ⟨[.sc .nilFunc], 8, .func⟩ := rfl
theorem ti_116 : ctx.ti 116 = some ⟨[.sc .nilFunc], 8, .func⟩ := rfl
theorem ti_117 : ctx.ti 117 = some ⟨[.sc (.pointer none), .sc (.pointer none), .sc (.pointer none), .sc (.string ⟨#[]⟩)], 40, .struct [(17, 0), (17, 1), (17, 2), (9, 3)]⟩ := rfl
theorem ti_118 : ctx.ti 118 = some ⟨[.sc (.pointer none), .sc (.pointer none), .sc (.pointer none), .sc (.string ⟨#[]⟩)], 40, .struct [(17, 0), (17, 1), (17, 2), (9, 3)]⟩ := rfl
theorem ti_119 : ctx.ti 119 = some ⟨[], 0, .array 0 16⟩ := rfl
theorem ti_120 : ctx.ti 120 = some ⟨[], 0, .struct [(119, 0)]⟩ := rfl
theorem ti_121 : ctx.ti 121 = some ⟨[], 0, .struct [(119, 0)]⟩ := rfl
theorem ti_122 : ctx.ti 122 = some ⟨[.sc (.int .u8 0)], 1, .int .u8⟩ := rfl
theorem ti_123 : ctx.ti 123 = some ⟨[.sc (.int .u8 0)], 1, .int .u8⟩ := rfl
theorem ti_124 : ctx.ti 124 = some ⟨[.sc .nilFunc], 8, .func⟩ := rfl
theorem ti_125 : ctx.ti 125 = some ⟨[.sc (.pointer none)], 8, .pointer 5⟩ := rfl
theorem ti_126 : ctx.ti 126 = some ⟨[.sc (.int .i32 0)], 4, .int .i32⟩ := rfl
theorem ti_127 : ctx.ti 127 = some ⟨[.sc (.int .i32 0)], 4, .int .i32⟩ := rfl
theorem ti_128 : ctx.ti 128 = some ⟨[.sc (.int .u64 0), .sc (.int .u64 0), .sc (.int .u32 0), .sc (.int .u8 0), .sc (.int .u8 0), .sc (.int .u8 0), .sc (.int .u8 0), .sc .nilFunc, .sc (.pointer none), .sc (.int .i32 0), .sc (.int .i32 0)], 48, .struct [(12, 0), (12, 1), (22, 2), (122, 3), (5, 4), (5, 5), (123, 6), (124, 7), (125, 8), (126, 9), (127, 10)]⟩ := rfl
theorem ti_129 : ctx.ti 129 = some ⟨[.sc (.int .u64 0), .sc (.int .u64 0), .sc (.int .u32 0), .sc (.int .u8 0), .sc (.int .u8 0), .sc (.int .u8 0), .sc (.int .u8 0), .sc .nilFunc, .sc (.pointer none), .sc (.int .i32 0), .sc (.int .i32 0)], 48, .struct [(12, 0), (12, 1), (22, 2), (122, 3), (5, 4), (5, 5), (123, 6), (124, 7), (125, 8), (126, 9), (127, 10)]⟩ := rfl
theorem hint_3 : ctx.hint 3 = ⟨.z, [0, 1, 2, 3, 4, 10, 11, 12, 14, 16, 20, 29], [], [], true⟩ := rfl
theorem hint_4 : ctx.hint 4 = ⟨.z, [0, 1, 2, 3, 4, 5, 12, 13, 14, 16, 25], [], [], true⟩ := rfl
theorem hint_5 : ctx.hint 5 = ⟨.z, [0, 1, 4, 5, 6, 7, 8, 9, 10, 11, 12, 13, 15, 71, 81, 83, 94], [(7, 13), (8, 19), (12, 3), (17, 4)], [], true⟩ := rfl
theorem hint_6 : ctx.hint 6 = ⟨.z, [0, 1, 2, 6, 7, 9, 11, 13, 34, 35, 36, 37, 58], [], [], true⟩ := rfl
theorem hint_7 : ctx.hint 7 = ⟨.z, [0, 1, 2, 3, 5, 8, 10, 11, 12, 13, 14, 15, 16, 18, 23, 24, 25, 26, 63, 72], [], [], true⟩ := rfl
theorem hint_8 : ctx.hint 8 = ⟨.z, [0, 1, 2, 3, 4, 8, 9, 10, 11, 12, 13, 15, 17], [], [], true⟩ := rfl
theorem hint_9 : ctx.hint 9 = ⟨.z, [0, 2, 3, 4, 5, 7, 24, 56], [], [], true⟩ := rfl
theorem hint_10 : ctx.hint 10 = ⟨.z, [0, 1, 4, 5, 6, 7, 8, 9, 10, 11, 13, 59], [(4, 7), (5, 5)], [], true⟩ := rfl
theorem hint_11 : ctx.hint 11 = ⟨.z, [0, 1, 2, 3, 8, 9, 10, 11, 12, 13, 15, 16, 17, 18, 19, 20, 21, 22, 23, 25, 38, 47, 81, 82, 83, 84, 155], [(5, 1), (5, 5), (5, 6), (11, 0), (11, 11), (11, 13), (11, 14), (11, 25), (11, 27), (11, 28), (11, 29), (15, 2), (15, 6), (16, 2), (16, 6), (17, 2), (17, 6), (18, 2), (18, 6), (19, 0), (19, 2), (19, 10), (19, 12), (19, 24), (19, 28), (19, 35), (19, 42)], [], true⟩ := rfl
theorem hint_12 : ctx.hint 12 = ⟨.z, [0, 1, 4, 5, 7, 8, 9, 10, 11, 12, 13, 14, 15, 16, 18, 21, 41, 43, 49, 67, 72, 108, 115, 130, 148], [(5, 1), (5, 5), (5, 6), (7, 2), (7, 6)], [], true⟩ := rfl
theorem hint_13 : ctx.hint 13 = ⟨.z, [0, 1, 4, 5, 7, 9, 11, 12, 13, 15, 18, 43, 56], [(5, 1), (5, 5), (5, 6), (7, 2), (7, 6), (8, 3), (8, 7)], [], true⟩ := rfl
theorem hint_14 : ctx.hint 14 = ⟨.z, [0, 1, 4, 5, 6, 7, 8, 9, 10, 11, 12, 13, 14, 16, 27, 77, 80, 100], [(8, 0), (8, 4), (8, 6), (8, 7), (9, 0), (9, 4), (9, 6), (9, 7), (10, 2), (10, 6), (11, 2), (11, 6), (19, 3), (19, 8)], [], true⟩ := rfl
theorem hint_15 : ctx.hint 15 = ⟨.z, [0, 1, 2, 4], [(1, 4), (2, 4)], [], true⟩ := rfl
theorem hint_16 : ctx.hint 16 = ⟨.z, [0, 1, 4, 5, 6, 7, 8, 9, 23, 24, 27, 30, 33, 36, 43, 48, 57], [], [], true⟩ := rfl
theorem hint_17 : ctx.hint 17 = ⟨.z, [0, 1, 4, 5, 6, 7, 8, 9, 27], [(4, 20), (5, 0)], [], true⟩ := rfl
theorem hint_18 : ctx.hint 18 = ⟨.z, [0, 2, 8], [], [], true⟩ := rfl
theorem hint_19 : ctx.hint 19 = ⟨.z, [0, 2, 8], [], [], true⟩ := rfl
theorem hint_20 : ctx.hint 20 = ⟨.z, [0, 2, 8], [], [], true⟩ := rfl
theorem hint_21 : ctx.hint 21 = ⟨.z, [0, 2, 8], [], [], true⟩ := rfl
theorem hint_22 : ctx.hint 22 = ⟨.z, [0, 1, 2, 6], [], [], true⟩ := rfl
theorem hint_23 : ctx.hint 23 = ⟨.z, [0, 1, 2, 6], [], [], true⟩ := rfl
theorem hint_24 : ctx.hint 24 = ⟨.z, [0, 1, 2, 3, 8, 9, 10, 11, 16, 17, 18, 19, 23], [], [], true⟩ := rfl
theorem hint_25 : ctx.hint 25 = ⟨.z, [0, 1, 2, 3, 8, 9, 10, 13, 16, 19], [], [], true⟩ := rfl
theorem hint_26 : ctx.hint 26 = ⟨.z, [0, 1, 2, 3, 5], [], [], true⟩ := rfl
theorem hint_27 : ctx.hint 27 = ⟨.z, [0, 1, 4, 5, 6, 7, 16, 17, 30, 38, 45, 52, 59, 69, 78, 87, 96, 110, 119, 123, 132, 141, 153, 170, 187, 203, 208, 213, 219, 225, 234, 243, 255, 260, 265, 276], [], [], true⟩ := rfl
theorem hint_28 : ctx.hint 28 = ⟨.z, [0, 2], [], [], true⟩ := rfl
theorem hint_29 : ctx.hint 29 = ⟨.z, [0, 2], [], [], true⟩ := rfl
theorem hint_30 : ctx.hint 30 = ⟨.z, [0, 1, 4, 5, 6, 14, 19, 24, 29, 34, 43, 48, 57, 66], [(1, 4)], [], true⟩ := rfl
theorem hint_31 : ctx.hint 31 = ⟨.z, [0, 1, 4, 5, 6, 7, 8, 9, 10, 11, 12, 13, 14, 15, 16, 17, 19, 46, 47, 50, 51, 63, 67, 79, 90, 104, 110, 115, 129, 134, 140, 154, 168, 181, 195, 208, 214, 220, 226, 257, 265], [], [], true⟩ := rfl
theorem hint_32 : ctx.hint 32 = ⟨.z, [0, 1, 2, 4, 5, 6, 18, 19, 20, 27], [], [], true⟩ := rfl
theorem hint_33 : ctx.hint 33 = ⟨.z, [0, 1, 2, 4, 5, 6, 7, 8, 20, 27, 42, 50], [(3, 3)], [], true⟩ := rfl
theorem hint_34 : ctx.hint 34 = ⟨.z, [0, 1, 2, 3, 4, 5], [(1, 4), (2, 1), (2, 5), (3, 1), (3, 5), (4, 2), (4, 8), (4, 10), (4, 19), (4, 24)], [], true⟩ := rfl
theorem hint_35 : ctx.hint 35 = ⟨.z, [0, 2, 3, 4, 5, 6, 7, 8, 12], [(8, 0), (8, 3), (8, 5), (8, 6), (8, 9), (8, 11), (8, 12), (8, 13), (9, 2), (9, 3)], [], true⟩ := rfl
theorem hint_37 : ctx.hint 37 = ⟨.z, [0, 1, 4, 5, 6, 7, 8, 9, 10, 11, 12, 13, 14, 15, 16, 17, 18, 27, 38, 49, 71, 77, 80, 91, 127, 131, 152, 172], [(2, 3), (8, 1), (8, 2), (27, 27), (38, 2)], [(2, 2)], true⟩ := rfl
theorem hint_38 : ctx.hint 38 = ⟨.z, [0, 1, 4, 5, 10, 14, 25], [], [], true⟩ := rfl
theorem hint_39 : ctx.hint 39 = ⟨.z, [0, 1, 2, 6, 7, 8, 9, 10, 15, 19, 20, 21, 22, 52, 55, 56, 57, 58, 90], [], [], true⟩ := rfl
theorem hint_40 : ctx.hint 40 = ⟨.z, [0, 1, 2, 6, 7, 8, 9, 16, 20, 56, 59, 102], [], [], true⟩ := rfl
theorem hint_41 : ctx.hint 41 = ⟨.z, [0, 1, 4, 5, 6, 7, 8, 32, 40, 50], [(3, 2), (10, 0), (10, 3), (10, 4), (11, 1)], [], true⟩ := rfl
theorem hint_42 : ctx.hint 42 = ⟨.z, [0, 1, 4], [], [], true⟩ := rfl
theorem hint_43 : ctx.hint 43 = ⟨.z, [0, 2, 3, 4, 12], [], [], true⟩ := rfl
theorem hint_44 : ctx.hint 44 = ⟨.z, [0, 1, 2, 3, 6], [], [], true⟩ := rfl
theorem hint_45 : ctx.hint 45 = ⟨.z, [0, 1, 2], [(1, 2)], [], true⟩ := rfl
theorem hint_46 : ctx.hint 46 = ⟨.z, [0, 1, 2, 3, 4, 5, 6, 7, 8, 20, 21, 23, 32, 41, 52, 63, 72, 87, 95, 101], [], [], true⟩ := rfl
theorem hint_47 : ctx.hint 47 = ⟨.z, [0, 1, 2, 3, 4, 5, 6, 17, 18, 26, 34, 43], [], [], true⟩ := rfl
theorem hint_48 : ctx.hint 48 = ⟨.z, [0, 1, 2, 3, 4, 14, 15, 22, 29, 44, 50, 57, 69], [], [], true⟩ := rfl
theorem hint_49 : ctx.hint 49 = ⟨.z, [0, 1, 2, 3, 4, 10], [(1, 6)], [], true⟩ := rfl
theorem hint_50 : ctx.hint 50 = ⟨.z, [0, 1, 2, 3, 4, 5, 6, 7, 19, 20, 31, 42, 52], [], [], true⟩ := rfl
theorem hint_51 : ctx.hint 51 = ⟨.z, [0, 1, 2, 3, 4, 5, 6, 15, 28, 39, 57, 69, 90, 99, 108, 125, 132], [(8, 14), (21, 2)], [], true⟩ := rfl
theorem hint_52 : ctx.hint 52 = ⟨.z, [0, 1, 2, 3, 4, 5, 6, 17, 18, 24, 30, 33, 41, 52, 58, 63], [(13, 6), (16, 2), (21, 7)], [], true⟩ := rfl
theorem hint_53 : ctx.hint 53 = ⟨.z, [0, 2, 3], [], [], true⟩ := rfl
theorem hint_54 : ctx.hint 54 = ⟨.z, [0, 2, 3], [], [], true⟩ := rfl
theorem hint_55 : ctx.hint 55 = ⟨.z, [0, 1, 2, 3, 4, 10, 11], [], [], true⟩ := rfl
theorem hint_56 : ctx.hint 56 = ⟨.z, [0, 1, 2, 3, 4, 10, 11], [], [], true⟩ := rfl
theorem hint_57 : ctx.hint 57 = ⟨.z, [0, 1, 4, 5, 6, 7, 16, 23, 24, 32, 40, 49, 75, 76, 83, 91, 106, 113, 120, 133], [], [], true⟩ := rfl
theorem hint_58 : ctx.hint 58 = ⟨.z, [0, 1, 4, 5, 6, 7, 8, 9, 10, 11, 13, 23, 24, 36, 60, 64, 75, 109, 113, 118, 130, 137, 146, 164], [(40, 9)], [], true⟩ := rfl
theorem hint_59 : ctx.hint 59 = ⟨.z, [0, 2], [(1, 1)], [], true⟩ := rfl
theorem hint_60 : ctx.hint 60 = ⟨.z, [0, 1, 4, 5, 6, 7, 14, 19, 27], [], [], true⟩ := rfl
theorem hint_61 : ctx.hint 61 = ⟨.z, [0, 1, 4, 5, 6, 16], [], [], true⟩ := rfl
theorem hint_62 : ctx.hint 62 = ⟨.z, [0, 2, 3, 4, 7, 10, 13, 16, 19, 22, 25, 30, 37, 40, 56], [(3, 1), (5, 1), (7, 1), (9, 1), (11, 1), (13, 1), (15, 1), (19, 1), (25, 1), (27, 1), (42, 1), (45, 1), (46, 1)], [], true⟩ := rfl
theorem hint_63 : ctx.hint 63 = ⟨.n, [0, 1], [], [], true⟩ := rfl
theorem hint_64 : ctx.hint 64 = ⟨.z, [0, 1, 2, 3, 4, 5, 6, 7, 8, 9, 17], [(6, 0), (6, 3), (6, 4), (8, 2), (9, 1)], [], true⟩ := rfl
theorem hint_65 : ctx.hint 65 = ⟨.n, [0, 1, 4, 5, 6, 7, 12, 19, 29], [(1, 2), (3, 1), (12, 3)], [], true⟩ := rfl
theorem hint_67 : ctx.hint 67 = ⟨.n, [0, 2], [], [], true⟩ := rfl
theorem hint_68 : ctx.hint 68 = ⟨.n, [0, 2, 3], [], [], true⟩ := rfl
theorem hint_69 : ctx.hint 69 = ⟨.z, [0, 1, 2, 6, 7, 16], [(3, 1), (5, 3), (5, 6), (5, 7), (7, 1)], [], true⟩ := rfl
theorem hint_70 : ctx.hint 70 = ⟨.z, [0, 1, 4, 5, 6, 7, 8, 9, 10, 11, 26], [], [], true⟩ := rfl
theorem hint_71 : ctx.hint 71 = ⟨.z, [0, 2], [], [], true⟩ := rfl
theorem hint_72 : ctx.hint 72 = ⟨.z, [0, 2, 3, 4, 5, 9, 22, 77], [(9, 3), (9, 6), (9, 7), (9, 10), (9, 11), (10, 1)], [], true⟩ := rfl
theorem hint_73 : ctx.hint 73 = ⟨.z, [0, 1, 2, 6, 7, 11, 19, 25], [], [], true⟩ := rfl
theorem hint_74 : ctx.hint 74 = ⟨.z, [0, 2], [], [], true⟩ := rfl
theorem hint_75 : ctx.hint 75 = ⟨.z, [0, 1, 2], [(1, 2)], [], true⟩ := rfl
theorem hint_76 : ctx.hint 76 = ⟨.z, [0, 1, 2, 3, 4, 10], [(1, 5)], [], true⟩ := rfl
theorem hint_77 : ctx.hint 77 = ⟨.z, [0, 1, 2, 3, 4, 10], [(1, 5)], [], true⟩ := rfl
theorem hint_78 : ctx.hint 78 = ⟨.z, [0, 1, 2, 3, 4, 6, 12, 28], [(3, 2), (4, 6), (7, 5)], [], true⟩ := rfl
theorem hint_79 : ctx.hint 79 = ⟨.z, [0, 1, 4, 5, 6, 7, 8, 42, 47, 54, 63], [(6, 2), (11, 0), (11, 3), (11, 4), (12, 0), (12, 4), (12, 5), (13, 1)], [], true⟩ := rfl
theorem hint_80 : ctx.hint 80 = ⟨.z, [0, 1, 4, 5], [], [], true⟩ := rfl
theorem hint_81 : ctx.hint 81 = ⟨.n, [0, 1, 4, 17], [], [], true⟩ := rfl
theorem hint_82 : ctx.hint 82 = ⟨.n, [0, 1], [(0, 4)], [], true⟩ := rfl
theorem hint_83 : ctx.hint 83 = ⟨.n, [0, 1, 2, 5], [(1, 23)], [], true⟩ := rfl
theorem hint_84 : ctx.hint 84 = ⟨.z, [0, 2, 3, 5, 6, 7, 8, 9, 14], [], [], true⟩ := rfl
theorem hint_85 : ctx.hint 85 = ⟨.z, [0, 1, 4, 5, 6, 11, 12, 13, 16, 19], [], [], true⟩ := rfl
theorem hint_86 : ctx.hint 86 = ⟨.n, [0, 1, 4, 5, 7, 8, 9, 16], [], [], true⟩ := rfl
theorem hint_87 : ctx.hint 87 = ⟨.n, [0, 1, 2, 6, 7, 8, 9, 10, 21, 33, 39], [], [], true⟩ := rfl
theorem hint_88 : ctx.hint 88 = ⟨.z, [0, 2], [], [], true⟩ := rfl
theorem hint_89 : ctx.hint 89 = ⟨.z, [0, 2], [], [], true⟩ := rfl
theorem hint_90 : ctx.hint 90 = ⟨.n, [0, 1, 2, 6, 7, 8, 9, 13, 30, 35, 54], [(3, 4), (6, 4), (10, 7), (15, 5)], [], true⟩ := rfl
theorem hint_91 : ctx.hint 91 = ⟨.z, [0, 2], [], [], true⟩ := rfl
theorem hint_92 : ctx.hint 92 = ⟨.n, [0, 1, 2, 3, 8, 9, 14, 34], [], [], true⟩ := rfl
theorem hint_93 : ctx.hint 93 = ⟨.n, [0, 1, 2, 3, 4, 10, 11, 12, 13, 14, 15, 16, 17, 18, 19, 20, 21, 22, 23, 24, 28, 33, 50, 58, 80, 85, 103, 110, 140, 151, 171, 185, 199, 213], [(40, 5), (42, 5), (44, 5)], [], true⟩ := rfl
theorem hint_94 : ctx.hint 94 = ⟨.n, [0, 1, 2, 3, 4, 10, 11, 20, 23], [(4, 7), (6, 11), (8, 7)], [], true⟩ := rfl
theorem hint_95 : ctx.hint 95 = ⟨.n, [0, 1, 2, 3, 10, 13], [], [], true⟩ := rfl
theorem fun_3 : ctx.P.funcs[3]? = some Try.f3 := Try.func3
theorem fun_4 : ctx.P.funcs[4]? = some Try.f4 := Try.func4
theorem fun_5 : ctx.P.funcs[5]? = some Try.f5 := Try.func5
theorem fun_6 : ctx.P.funcs[6]? = some Try.f6 := Try.func6
theorem fun_7 : ctx.P.funcs[7]? = some Try.f7 := Try.func7
theorem fun_8 : ctx.P.funcs[8]? = some Try.f8 := Try.func8
theorem fun_9 : ctx.P.funcs[9]? = some Try.f9 := Try.func9
theorem fun_10 : ctx.P.funcs[10]? = some Try.f10 := Try.func10
theorem fun_11 : ctx.P.funcs[11]? = some Try.f11 := Try.func11
theorem fun_12 : ctx.P.funcs[12]? = some Try.f12 := Try.func12
theorem fun_13 : ctx.P.funcs[13]? = some Try.f13 := Try.func13
theorem fun_14 : ctx.P.funcs[14]? = some Try.f14 := Try.func14
theorem fun_15 : ctx.P.funcs[15]? = some Try.f15 := Try.func15
theorem fun_16 : ctx.P.funcs[16]? = some Try.f16 := Try.func16
theorem fun_17 : ctx.P.funcs[17]? = some Try.f17 := Try.func17
theorem fun_18 : ctx.P.funcs[18]? = some Try.f18 := Try.func18
theorem fun_19 : ctx.P.funcs[19]? = some Try.f19 := Try.func19
theorem fun_20 : ctx.P.funcs[20]? = some Try.f20 := Try.func20
theorem fun_21 : ctx.P.funcs[21]? = some Try.f21 := Try.func21
theorem fun_22 : ctx.P.funcs[22]? = some Try.f22 := Try.func22
theorem fun_23 : ctx.P.funcs[23]? = some Try.f23 := Try.func23
theorem fun_24 : ctx.P.funcs[24]? = some Try.f24 := Try.func24
theorem fun_25 : ctx.P.funcs[25]? = some Try.f25 := Try.func25
theorem fun_26 : ctx.P.funcs[26]? = some Try.f26 := Try.func26
theorem fun_27 : ctx.P.funcs[27]? = some Try.f27 := Try.func27
theorem fun_28 : ctx.P.funcs[28]? = some Try.f28 := Try.func28
theorem fun_29 : ctx.P.funcs[29]? = some Try.f29 := Try.func29
theorem fun_30 : ctx.P.funcs[30]? = some Try.f30 := Try.func30
theorem fun_31 : ctx.P.funcs[31]? = some Try.f31 := Try.func31
theorem fun_32 : ctx.P.funcs[32]? = some Try.f32 := Try.func32
theorem fun_33 : ctx.P.funcs[33]? = some Try.f33 := Try.func33
theorem fun_34 : ctx.P.funcs[34]? = some Try.f34 := Try.func34
theorem fun_35 : ctx.P.funcs[35]? = some Try.f35 := Try.func35
theorem fun_36 : ctx.P.funcs[36]? = some Try.f36 := Try.func36
theorem fun_37 : ctx.P.funcs[37]? = some Try.f37 := Try.func37
theorem fun_38 : ctx.P.funcs[38]? = some Try.f38 := Try.func38
theorem fun_39 : ctx.P.funcs[39]? = some Try.f39 := Try.func39
theorem fun_40 : ctx.P.funcs[40]? = some Try.f40 := Try.func40
theorem fun_41 : ctx.P.funcs[41]? = some Try.f41 := Try.func41
theorem fun_42 : ctx.P.funcs[42]? = some Try.f42 := Try.func42
theorem fun_43 : ctx.P.funcs[43]? = some Try.f43 := Try.func43
theorem fun_44 : ctx.P.funcs[44]? = some Try.f44 := Try.func44
theorem fun_45 : ctx.P.funcs[45]? = some Try.f45 := Try.func45
theorem fun_46 : ctx.P.funcs[46]? = some Try.f46 := Try.func46
theorem fun_47 : ctx.P.funcs[47]? = some Try.f47 := Try.func47
theorem fun_48 : ctx.P.funcs[48]? = some Try.f48 := Try.func48
theorem fun_49 : ctx.P.funcs[49]? = some Try.f49 := Try.func49
theorem fun_50 : ctx.P.funcs[50]? = some Try.f50 := Try.func50
theorem fun_51 : ctx.P.funcs[51]? = some Try.f51 := Try.func51
theorem fun_52 : ctx.P.funcs[52]? = some Try.f52 := Try.func52
theorem fun_53 : ctx.P.funcs[53]? = some Try.f53 := Try.func53
theorem fun_54 : ctx.P.funcs[54]? = some Try.f54 := Try.func54
theorem fun_55 : ctx.P.funcs[55]? = some Try.f55 := Try.func55
theorem fun_56 : ctx.P.funcs[56]? = some Try.f56 := Try.func56
theorem fun_57 : ctx.P.funcs[57]? = some Try.f57 := Try.func57
theorem fun_58 : ctx.P.funcs[58]? = some Try.f58 := Try.func58
theorem fun_59 : ctx.P.funcs[59]? = some Try.f59 := Try.func59
theorem fun_60 : ctx.P.funcs[60]? = some Try.f60 := Try.func60
theorem fun_61 : ctx.P.funcs[61]? = some Try.f61 := Try.func61
theorem fun_62 : ctx.P.funcs[62]? = some Try.f62 := Try.func62
theorem fun_63 : ctx.P.funcs[63]? = some Try.f63 := Try.func63
theorem fun_64 : ctx.P.funcs[64]? = some Try.f64 := Try.func64
theorem fun_65 : ctx.P.funcs[65]? = some Try.f65 := Try.func65
theorem fun_66 : ctx.P.funcs[66]? = some Try.f66 := Try.func66
theorem fun_67 : ctx.P.funcs[67]? = some Try.f67 := Try.func67
theorem fun_68 : ctx.P.funcs[68]? = some Try.f68 := Try.func68
theorem fun_69 : ctx.P.funcs[69]? = some Try.f69 := Try.func69
theorem fun_70 : ctx.P.funcs[70]? = some Try.f70 := Try.func70
theorem fun_71 : ctx.P.funcs[71]? = some Try.f71 := Try.func71
theorem fun_72 : ctx.P.funcs[72]? = some Try.f72 := Try.func72
theorem fun_73 : ctx.P.funcs[73]? = some Try.f73 := Try.func73
theorem fun_74 : ctx.P.funcs[74]? = some Try.f74 := Try.func74
theorem fun_75 : ctx.P.funcs[75]? = some Try.f75 := Try.func75
theorem fun_76 : ctx.P.funcs[76]? = some Try.f76 := Try.func76
theorem fun_77 : ctx.P.funcs[77]? = some Try.f77 := Try.func77
theorem fun_78 : ctx.P.funcs[78]? = some Try.f78 := Try.func78
theorem fun_79 : ctx.P.funcs[79]? = some Try.f79 := Try.func79
theorem fun_80 : ctx.P.funcs[80]? = some Try.f80 := Try.func80
theorem fun_81 : ctx.P.funcs[81]? = some Try.f81 := Try.func81
theorem fun_82 : ctx.P.funcs[82]? = some Try.f82 := Try.func82
theorem fun_83 : ctx.P.funcs[83]? = some Try.f83 := Try.func83
theorem fun_84 : ctx.P.funcs[84]? = some Try.f84 := Try.func84
theorem fun_85 : ctx.P.funcs[85]? = some Try.f85 := Try.func85
theorem fun_86 : ctx.P.funcs[86]? = some Try.f86 := Try.func86
theorem fun_87 : ctx.P.funcs[87]? = some Try.f87 := Try.func87
theorem fun_88 : ctx.P.funcs[88]? = some Try.f88 := Try.func88
theorem fun_89 : ctx.P.funcs[89]? = some Try.f89 := Try.func89
theorem fun_90 : ctx.P.funcs[90]? = some Try.f90 := Try.func90
theorem fun_91 : ctx.P.funcs[91]? = some Try.f91 := Try.func91
theorem fun_92 : ctx.P.funcs[92]? = some Try.f92 := Try.func92
theorem fun_93 : ctx.P.funcs[93]? = some Try.f93 := Try.func93
theorem fun_94 : ctx.P.funcs[94]? = some Try.f94 := Try.func94
theorem fun_95 : ctx.P.funcs[95]? = some Try.f95 := Try.func95
end Go.Den
