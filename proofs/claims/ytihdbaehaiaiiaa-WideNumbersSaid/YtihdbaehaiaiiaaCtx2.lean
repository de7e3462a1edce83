import Derived.Test.YtihdbaehaiaiiaaProg
import Derived.Test.YtihdbaehaiaiiaaDenB
set_option linter.unusedSimpArgs false
set_option linter.unusedVariables false
set_option maxRecDepth 100000
namespace Go.Den
open Go.Proofs

def tiTab : List (Option TI) := [
  none,
  some ⟨[.sc .nilFunc], 8, .func⟩,
  some ⟨[.sc (.int .i64 0)], 8, .int .i64⟩,
  some ⟨[.sc (.int .i64 0)], 8, .int .i64⟩,
  some ⟨[.sc (.bool false)], 1, .bool⟩,
  some ⟨[.sc (.int .u8 0)], 1, .int .u8⟩,
  some ⟨[.sc (.int .u8 0)], 1, .int .u8⟩,
  some ⟨[.sc (.int .i64 0), .sc (.int .i64 0), .sc (.bool false), .sc (.int .u8 0)], 24, .struct [(2, 0), (3, 1), (4, 2), (6, 3)]⟩,
  some ⟨[.sc (.int .i64 0), .sc (.int .i64 0), .sc (.bool false), .sc (.int .u8 0)], 24, .struct [(2, 0), (3, 1), (4, 2), (6, 3)]⟩,
  some ⟨[.sc (.string ⟨#[]⟩)], 16, .string⟩,
  some ⟨[.sc (.string ⟨#[]⟩)], 16, .string⟩,
  some ⟨[.sc (.string ⟨#[]⟩)], 16, .string⟩,
  some ⟨[.sc (.int .u64 0)], 8, .int .u64⟩,
  some ⟨[.sc (.string ⟨#[]⟩), .sc (.int .u64 0)], 24, .struct [(9, 0), (12, 1)]⟩,
  some ⟨[.sc (.string ⟨#[]⟩), .sc (.int .u64 0)], 24, .struct [(9, 0), (12, 1)]⟩,
  some ⟨[.sc (.pointer none)], 8, .pointer 89⟩,
  some ⟨[.sc (.pointer none)], 8, .pointer 92⟩,
  some ⟨[.sc (.pointer none)], 8, .pointer 100⟩,
  some ⟨[.sc (.pointer none)], 8, .struct [(17, 0)]⟩,
  some ⟨[.sc (.pointer none)], 8, .struct [(17, 0)]⟩,
  some ⟨[.sc .nilIface], 16, .iface⟩,
  some ⟨[.sc (.int .i32 0)], 4, .int .i32⟩,
  some ⟨[.sc (.int .u16 0)], 2, .int .u16⟩,
  some ⟨[.sc .nilFunc], 8, .func⟩,
  none,
  some ⟨[.sc .nilFunc], 8, .func⟩,
  some ⟨[.sc (.int .u16 0), .sc (.int .u16 0)], 4, .array 2 22⟩,
  some ⟨[.sl true 0 []], 24, .slice 26⟩,
  some ⟨[.sc (.int .u32 0)], 4, .int .u32⟩,
  some ⟨[.sc (.int .i64 0), .sc (.bool false), .sc (.bool false), .sc (.int .i64 0), .sc (.int .i64 0), .sc (.int .i64 0), .sc (.int .i64 0), .sc (.int .i64 0), .sc (.int .u32 0), .sc (.bool false), .sc (.int .i64 0), .sc (.int .i64 0), .sc (.int .i64 0), .sc (.bool false), .sc (.bool false)], 96, .struct [(3, 0), (4, 1), (4, 2), (3, 3), (3, 4), (3, 5), (3, 6), (3, 7), (28, 8), (4, 9), (3, 10), (3, 11), (3, 12), (4, 13), (4, 14)]⟩,
  some ⟨[.sc (.int .i64 0), .sc (.bool false), .sc (.bool false), .sc (.int .i64 0), .sc (.int .i64 0), .sc (.int .i64 0), .sc (.int .i64 0), .sc (.int .i64 0), .sc (.int .u32 0), .sc (.bool false), .sc (.int .i64 0), .sc (.int .i64 0), .sc (.int .i64 0), .sc (.bool false), .sc (.bool false)], 96, .struct [(3, 0), (4, 1), (4, 2), (3, 3), (3, 4), (3, 5), (3, 6), (3, 7), (28, 8), (4, 9), (3, 10), (3, 11), (3, 12), (4, 13), (4, 14)]⟩,
  some ⟨[.sc .nilFunc], 8, .func⟩,
  some ⟨[.sc .nilFunc], 8, .func⟩,
  none,
  some ⟨[.sc .nilFunc], 8, .func⟩,
  some ⟨[.sc .nilFunc], 8, .func⟩,
  some ⟨[.sc (.int .u64 0)], 8, .int .u64⟩,
  some ⟨[.sc .nilFunc], 8, .func⟩,
  none,
  some ⟨[.sc .nilFunc], 8, .func⟩,
  some ⟨[.sc .nilFunc], 8, .func⟩,
  some ⟨[.sl true 0 []], 24, .slice 22⟩,
  some ⟨[.sc (.int .u32 0), .sc (.int .u32 0), .sc (.bool false)], 12, .struct [(28, 0), (28, 1), (4, 2)]⟩,
  some ⟨[.sc (.int .u32 0), .sc (.int .u32 0), .sc (.bool false)], 12, .struct [(28, 0), (28, 1), (4, 2)]⟩,
  some ⟨[.sc .nilFunc], 8, .func⟩,
  some ⟨[.sc .nilFunc], 8, .func⟩,
  none,
  some ⟨[.sc .nilFunc], 8, .func⟩,
  some ⟨[.sc .nilFunc], 8, .func⟩,
  some ⟨[.sc .nilFunc], 8, .func⟩,
  some ⟨[.sl true 0 []], 24, .slice 49⟩,
  none,
  some ⟨[.sc .nilFunc], 8, .func⟩,
  none,
  some ⟨[.sc .nilFunc], 8, .func⟩,
  some ⟨[.sc .nilFunc], 8, .func⟩,
  some ⟨[.sc .nilFunc], 8, .func⟩,
  some ⟨[.sc .nilFunc], 8, .func⟩,
  some ⟨[.sl true 0 []], 24, .slice 3⟩,
  some ⟨[.sc .nilFunc], 8, .func⟩,
  some ⟨[.sc .nilFunc], 8, .func⟩,
  some ⟨[.sc .nilFunc], 8, .func⟩,
  some ⟨[.sc .nilFunc], 8, .func⟩,
  some ⟨[.sc .nilFunc], 8, .func⟩,
  some ⟨[.sc .nilFunc], 8, .func⟩,
  some ⟨[.sc .nilFunc], 8, .func⟩,
  some ⟨[.sc .nilFunc], 8, .func⟩,
  none,
  some ⟨[.sc .nilFunc], 8, .func⟩,
  some ⟨[.sc .nilFunc], 8, .func⟩,
  some ⟨[.sc .nilFunc], 8, .func⟩,
  some ⟨[.sc .nilFunc], 8, .func⟩,
  some ⟨[.sc .nilFunc], 8, .func⟩,
  some ⟨[.sc .nilFunc], 8, .func⟩,
  some ⟨[.sc .nilFunc], 8, .func⟩,
  some ⟨[.sl true 0 []], 24, .slice 28⟩,
  some ⟨[.sc .nilFunc], 8, .func⟩,
  some ⟨[.sc .nilFunc], 8, .func⟩,
  some ⟨[.sc .nilFunc], 8, .func⟩,
  some ⟨[.sc .nilFunc], 8, .func⟩,
  some ⟨[.sc (.int .u64 0)], 8, .int .u64⟩,
  some ⟨[.sc .nilFunc], 8, .func⟩,
  some ⟨[.sc .nilFunc], 8, .func⟩,
  some ⟨[.sc .nilFunc], 8, .func⟩,
  some ⟨[.sc .nilFunc], 8, .func⟩,
  some ⟨[.sc .nilFunc], 8, .func⟩,
  some ⟨[.sc .nilFunc], 8, .func⟩,
  some ⟨[.sc .nilFunc], 8, .func⟩,
  some ⟨[.sc (.pointer none), .sc (.pointer none), .sc (.pointer none), .sc (.string ⟨#[]⟩)], 40, .struct [(17, 0), (17, 1), (17, 2), (9, 3)]⟩,
  some ⟨[.sc (.pointer none), .sc (.pointer none), .sc (.pointer none), .sc (.string ⟨#[]⟩)], 40, .struct [(17, 0), (17, 1), (17, 2), (9, 3)]⟩,
  some ⟨[], 0, .array 0 16⟩,
  some ⟨[], 0, .struct [(90, 0)]⟩,
  some ⟨[], 0, .struct [(90, 0)]⟩,
  some ⟨[.sc (.int .u8 0)], 1, .int .u8⟩,
  some ⟨[.sc (.int .u8 0)], 1, .int .u8⟩,
  some ⟨[.sc .nilFunc], 8, .func⟩,
  some ⟨[.sc (.pointer none)], 8, .pointer 5⟩,
  some ⟨[.sc (.int .i32 0)], 4, .int .i32⟩,
  some ⟨[.sc (.int .i32 0)], 4, .int .i32⟩,
  some ⟨[.sc (.int .u64 0), .sc (.int .u64 0), .sc (.int .u32 0), .sc (.int .u8 0), .sc (.int .u8 0), .sc (.int .u8 0), .sc (.int .u8 0), .sc .nilFunc, .sc (.pointer none), .sc (.int .i32 0), .sc (.int .i32 0)], 48, .struct [(12, 0), (12, 1), (28, 2), (93, 3), (5, 4), (5, 5), (94, 6), (95, 7), (96, 8), (97, 9), (98, 10)]⟩,
  some ⟨[.sc (.int .u64 0), .sc (.int .u64 0), .sc (.int .u32 0), .sc (.int .u8 0), .sc (.int .u8 0), .sc (.int .u8 0), .sc (.int .u8 0), .sc .nilFunc, .sc (.pointer none), .sc (.int .i32 0), .sc (.int .i32 0)], 48, .struct [(12, 0), (12, 1), (28, 2), (93, 3), (5, 4), (5, 5), (94, 6), (95, 7), (96, 8), (97, 9), (98, 10)]⟩,
  none]

def eqTab : List TypeId := [30]

def hints : List (FuncId × Hint) := [
  (3, ⟨.z, [0, 1, 2, 3, 4, 5, 12, 13, 14, 15, 17, 19, 21, 78, 79, 80, 81, 96], [(7, 3), (7, 8), (7, 11), (7, 18), (7, 25), (7, 31), (7, 36), (7, 43)], [], true, [], [], [(3, (0, [0, 1, 2, 3, 4, 5, 13])), (4, (0, [0, 1, 2, 3, 4, 5, 13, 21])), (5, (0, [0, 1, 2, 3, 4, 5, 13])), (7, (0, [0, 1, 2, 3, 4, 5, 13, 78, 79, 80])), (8, (0, [0, 1, 2, 3, 4, 5, 13, 78, 79, 80, 81])), (12, (0, [0, 1, 2, 3, 4, 5, 13, 78, 79, 80]))]⟩),
  (4, ⟨.z, [0, 1, 2, 3, 4, 5, 11, 12, 13, 14, 15, 17, 18, 19, 20, 21, 22, 23, 24, 25, 26, 27, 28, 30, 32, 62, 63, 64, 65, 116], [(7, 2), (7, 6), (7, 17)], [], true, [], [18], [(3, (1, [0, 1, 2, 3, 4, 11, 13])), (4, (1, [0, 1, 2, 3, 4, 11, 13, 32])), (5, (1, [0, 1, 2, 3, 4, 11, 13])), (7, (1, [0, 1, 2, 3, 4, 11, 13, 62, 63, 64])), (8, (1, [0, 1, 2, 3, 4, 11, 13, 62, 63, 64, 65])), (15, (1, [0, 1, 2, 3, 4, 11, 13, 62, 63, 64]))]⟩),
  (5, ⟨.z, [0, 1, 2, 6, 7, 8, 9, 10, 11, 12, 13, 14, 15, 16, 19, 20, 23, 25, 32], [(4, 2), (8, 7), (10, 3)], [], true, [], [], []⟩),
  (6, ⟨.z, [0, 1, 2, 6, 7, 8, 9, 10, 11, 12, 13, 14, 15, 16, 19, 21, 47, 55], [(4, 2), (11, 4), (12, 5)], [], true, [], [], []⟩),
  (7, ⟨.z, [0, 1, 2, 3, 4, 7], [], [], true, [], [], []⟩),
  (8, ⟨.z, [0, 1, 2, 6, 7, 8, 9, 10, 11, 12, 13, 29, 30, 60, 94, 108, 124, 140, 160, 180, 200, 220, 232, 245, 254, 269, 288, 303, 318, 327], [], [], true, [], [], []⟩),
  (9, ⟨.z, [0, 1, 2, 6, 7, 8, 9, 21, 31, 42, 48, 56, 61, 67, 73], [(1, 5)], [], true, [], [3, 9, 17], []⟩),
  (10, ⟨.z, [0, 1, 2, 6, 7, 8, 9, 24, 30], [], [], true, [], [], []⟩),
  (11, ⟨.z, [0, 1, 2, 3, 4, 6, 8, 16, 17, 18, 19, 20, 25, 26, 27, 28, 37], [], [], true, [], [], [(3, (1, [1, 17, 18, 19])), (4, (1, [1, 17, 18, 19, 20])), (12, (1, [1, 17, 18, 19])), (6, (1, [1, 17, 18, 19, 25, 26, 27])), (7, (1, [1, 17, 18, 19, 25, 26, 27, 28])), (11, (1, [1, 17, 18, 19, 25, 26, 27]))]⟩),
  (12, ⟨.z, [0, 1, 2, 3, 4, 5, 6, 57, 69], [], [], true, [], [], []⟩),
  (13, ⟨.z, [0, 2, 3, 4, 5, 7, 9, 23], [], [], true, [], [], [(1, (0, [0, 4])), (2, (0, [0, 4, 9])), (3, (0, [0, 4]))]⟩),
  (14, ⟨.z, [0, 1, 2, 3, 6], [], [], true, [], [], []⟩),
  (15, ⟨.z, [0, 1, 2, 3, 6], [], [], true, [], [], []⟩),
  (16, ⟨.z, [0, 1, 2, 3, 4, 5, 6, 7, 8, 9, 10, 26, 35, 62], [(8, 5), (13, 8)], [], true, [(8, (0, 7)), (8, (2, 7))], [], []⟩),
  (17, ⟨.z, [0, 1, 2, 3, 4, 6, 7, 21], [(3, 1)], [], true, [], [], []⟩),
  (18, ⟨.z, [0, 1, 2, 3, 4, 5, 13, 14, 23, 32, 46], [(4, 5), (6, 5), (8, 3), (8, 10), (10, 3), (10, 10)], [], true, [], [], []⟩),
  (19, ⟨.z, [0, 1, 2, 3, 4, 5, 17, 27, 36, 45, 54], [(2, 2), (14, 17)], [], true, [], [], []⟩),
  (20, ⟨.z, [0, 1, 2, 3, 4, 5, 6, 7, 8, 9, 10, 44, 51, 58, 72, 94, 107], [(9, 6), (12, 3), (14, 3), (17, 7), (18, 5)], [], true, [], [], []⟩),
  (21, ⟨.z, [0, 1, 2, 3, 4, 5, 6, 7, 18, 24, 50, 70, 80, 110], [(5, 2), (8, 5), (13, 4), (16, 4), (19, 4)], [], true, [(7, (4, 8)), (7, (4, 10))], [], []⟩),
  (22, ⟨.z, [0, 1, 2, 3, 4, 5, 6, 7, 8, 9, 26, 46, 69, 106], [(2, 3), (6, 5), (9, 6), (12, 6), (15, 5)], [], true, [], [], []⟩),
  (23, ⟨.z, [0, 1, 2, 3, 4, 5, 6, 7, 50], [(2, 8)], [], true, [(2, (2, 9)), (2, (5, 9))], [6, 7], []⟩),
  (24, ⟨.z, [0, 1, 2], [], [], true, [], [], []⟩),
  (25, ⟨.z, [0, 1, 2, 6, 7, 8, 20, 31, 41, 50, 64, 73, 82], [], [], true, [], [1, 9, 15], []⟩),
  (26, ⟨.z, [0, 2, 3], [], [], true, [], [], []⟩),
  (27, ⟨.z, [0, 2, 3], [], [], true, [], [], []⟩),
  (28, ⟨.z, [0, 1, 2, 3, 4, 5, 6, 7, 8, 9, 10, 11, 12, 13, 14, 25, 37, 47, 74], [(2, 2), (11, 20), (16, 0), (16, 11), (16, 12), (17, 1)], [], true, [], [], []⟩),
  (29, ⟨.z, [0, 1, 2, 3, 4, 5, 6, 7, 36, 37, 51, 65, 82, 99, 111, 123], [(6, 12), (8, 12), (10, 15), (12, 15), (14, 10), (16, 10), (18, 12)], [], true, [], [], []⟩),
  (30, ⟨.z, [0, 1, 2, 3, 4, 5, 6, 21], [(5, 25), (7, 31)], [], true, [(5, (1, 5)), (5, (1, 9)), (5, (1, 18)), (5, (5, 14)), (5, (5, 18)), (5, (9, 14)), (5, (9, 18)), (7, (3, 14)), (7, (3, 21)), (7, (8, 14)), (7, (8, 21))], [], []⟩),
  (31, ⟨.z, [0, 1, 2, 3, 4, 5, 6, 15, 39, 55, 71], [(2, 3), (4, 18), (5, 3), (7, 10), (8, 3), (10, 13), (12, 10)], [], true, [], [], []⟩),
  (32, ⟨.z, [0, 1, 2, 3, 5, 6, 20, 44, 70], [(3, 12), (6, 21), (9, 18), (10, 3), (12, 18)], [], true, [], [], []⟩),
  (33, ⟨.z, [0, 1, 2, 3, 4, 5, 6, 7, 8, 9, 10, 47, 80], [(9, 0), (9, 24), (9, 25), (11, 0), (11, 13), (11, 14), (7, 0), (7, 15), (7, 16), (13, 1)], [], true, [], [], [(2, (1, [1, 3, 9])), (3, (1, [1, 3, 9, 10])), (12, (1, [1, 3, 9]))]⟩),
  (34, ⟨.z, [0, 1, 2, 3], [(2, 19)], [], true, [], [], []⟩),
  (35, ⟨.z, [0, 1, 2, 3, 4, 5, 6, 7, 8, 9, 10, 11, 14, 15, 21, 42, 60, 87, 93, 108, 128, 149, 180], [(5, 1), (6, 2), (6, 3), (17, 1), (18, 3), (18, 4)], [], true, [], [], []⟩),
  (36, ⟨.z, [0, 1, 4, 5, 6, 7, 8, 9, 10, 11, 17, 47], [(3, 21), (7, 0)], [], true, [], [], []⟩),
  (37, ⟨.z, [0, 1, 2, 6], [], [], true, [], [], []⟩),
  (38, ⟨.z, [0, 1, 2, 3, 5, 6, 7, 18], [], [], true, [], [], []⟩),
  (39, ⟨.z, [0, 1, 4, 5], [], [], true, [], [], []⟩),
  (40, ⟨.z, [0, 1, 2], [], [], true, [], [], []⟩),
  (41, ⟨.z, [0, 1, 4, 5, 6, 7, 8, 9, 10, 17, 36], [], [], true, [], [], []⟩),
  (42, ⟨.z, [0, 1, 2, 3, 4, 5, 6, 7, 8, 13, 16, 17, 18, 19, 38, 43, 74], [(11, 5), (12, 11), (13, 9)], [], true, [], [], []⟩),
  (43, ⟨.z, [0], [(1, 1)], [], true, [], [], []⟩),
  (44, ⟨.z, [0, 2, 4, 5, 6, 7, 8, 16], [], [], true, [], [], [(1, (0, [5, 6, 7])), (2, (0, [5, 6, 7, 8])), (6, (0, [5, 6, 7]))]⟩),
  (45, ⟨.z, [0, 1, 2, 3, 6, 7, 8, 9, 26, 38, 41, 44, 47], [(4, 7), (14, 3), (15, 4)], [], true, [], [], []⟩),
  (46, ⟨.z, [0, 2], [], [], true, [], [], []⟩),
  (47, ⟨.z, [0, 1, 2, 4], [(1, 7)], [], true, [], [], []⟩),
  (48, ⟨.z, [0, 1, 4, 5, 6, 7, 8, 9, 11, 32, 61, 71], [], [], true, [], [], []⟩),
  (49, ⟨.z, [0, 1, 4, 5, 6, 7, 8, 9, 10, 11, 12, 13, 14, 39, 40, 60, 65, 82, 87, 92, 105, 123, 131, 163], [], [], true, [], [], []⟩),
  (50, ⟨.z, [0, 1, 2, 6, 7, 8, 9, 10, 11, 12, 26, 42, 44, 71, 80], [], [], true, [], [], []⟩),
  (51, ⟨.z, [0, 1, 4, 5, 6, 7, 8, 34, 59, 62, 67, 80], [], [], true, [], [], []⟩),
  (52, ⟨.z, [0, 1, 4, 5, 6, 7, 8, 9, 26, 52, 56, 73, 75, 78, 81, 84, 87, 107, 111, 125, 134], [], [], true, [], [], []⟩),
  (53, ⟨.z, [0, 1, 4, 5, 6, 7, 8, 9, 10, 11, 36, 50, 60, 70, 84, 98, 138, 159], [], [], true, [], [6, 8, 10, 12, 14, 16], []⟩),
  (54, ⟨.z, [0, 1, 4, 5, 6, 7, 8, 9, 10, 11, 48, 56, 63, 74, 90, 97, 102, 112, 132], [], [], true, [], [], []⟩),
  (55, ⟨.z, [0, 1, 4, 5, 6, 7, 8, 17, 45], [], [], true, [], [2, 10, 11], []⟩),
  (56, ⟨.z, [0, 2], [(1, 1)], [], true, [], [], []⟩),
  (57, ⟨.z, [0, 1, 2, 3, 4, 6, 8, 9, 10, 11, 12, 19, 24, 25, 26, 27, 34], [], [], true, [], [], [(1, (1, [1, 9, 10, 11])), (2, (1, [1, 9, 10, 11, 12])), (6, (1, [1, 9, 10, 11])), (7, (1, [1, 24, 25, 26])), (8, (1, [1, 24, 25, 26, 27])), (12, (1, [1, 24, 25, 26]))]⟩),
  (58, ⟨.z, [0, 1, 4, 5, 6, 7, 8, 9, 10, 16], [], [], true, [], [], [(1, (0, [1, 7, 8, 9])), (2, (0, [1, 7, 8, 9, 10])), (6, (0, [1, 7, 8, 9]))]⟩),
  (59, ⟨.z, [0, 2, 3], [], [], true, [], [], []⟩),
  (60, ⟨.z, [0, 1, 4], [(1, 4)], [], true, [], [], []⟩),
  (61, ⟨.z, [0, 2, 3, 4, 5, 7, 8, 9, 22], [], [], true, [], [], [(1, (0, [0, 8])), (2, (0, [0, 8, 9])), (7, (0, [0, 8]))]⟩),
  (62, ⟨.z, [0, 2, 3], [], [], true, [], [], []⟩),
  (63, ⟨.q, [0, 1, 3], [], [], true, [], [], []⟩),
  (64, ⟨.z, [0, 2, 3, 12, 19, 26, 33, 38, 45], [], [], true, [], [], []⟩),
  (65, ⟨.z, [0, 1, 2, 3, 4, 5, 6, 7, 8, 9, 11, 12, 13, 29, 39, 64, 100, 130], [(4, 4), (14, 3)], [], true, [], [], []⟩),
  (66, ⟨.z, [0, 1, 4, 5, 9, 17], [], [], true, [], [], [(1, (0, [0, 1, 5])), (2, (0, [0, 1, 5, 9])), (3, (0, [0, 1, 5]))]⟩),
  (67, ⟨.z, [0, 1, 2, 3, 4, 5, 6, 7, 8, 9, 10, 15, 16, 38, 50, 86, 99], [(12, 4), (14, 1), (15, 2), (15, 3)], [], true, [], [], []⟩),
  (68, ⟨.z, [0, 2, 3], [], [], true, [], [], []⟩),
  (69, ⟨.z, [0, 1, 2, 3, 8, 9, 10, 19, 23, 32], [], [], true, [], [], []⟩),
  (70, ⟨.z, [0, 2], [], [], true, [], [], []⟩),
  (71, ⟨.z, [0, 1, 4, 5], [], [], true, [], [], []⟩),
  (72, ⟨.z, [0, 1, 4], [], [], true, [], [], []⟩),
  (73, ⟨.z, [0, 2, 3, 4, 6, 8, 10], [], [], true, [], [], []⟩),
  (74, ⟨.z, [0, 2, 3, 4, 6], [], [], true, [], [], []⟩),
  (75, ⟨.z, [0, 2], [], [], true, [], [], []⟩),
  (76, ⟨.z, [0, 2], [], [], true, [], [], []⟩),
  (77, ⟨.z, [0, 1, 2, 3, 8, 9, 10, 11, 26, 32, 34, 35, 39, 43, 47, 57, 66], [(1, 1), (2, 0)], [], true, [], [], []⟩),
  (78, ⟨.z, [0, 1, 2, 4, 5, 41], [], [], true, [], [], []⟩),
  (79, ⟨.z, [0, 1], [], [], true, [], [], []⟩),
  (80, ⟨.z, [0, 2, 3], [], [], true, [], [], []⟩),
  (81, ⟨.z, [0, 2], [], [], true, [], [], []⟩),
  (82, ⟨.z, [0, 1, 4, 5, 6, 16], [], [], true, [], [], []⟩),
  (83, ⟨.z, [0, 1, 4, 5, 6, 8, 22], [(6, 0), (6, 3), (6, 4), (7, 1)], [], true, [], [], []⟩),
  (84, ⟨.z, [0, 1, 2, 3, 4, 5, 6, 7, 14, 15, 17, 19, 21, 23, 25], [(15, 2)], [], true, [], [], []⟩),
  (85, ⟨.z, [0, 2], [], [], true, [], [], []⟩),
  (86, ⟨.z, [0, 1, 2, 6, 7, 8, 9, 10, 16, 22, 31, 42], [], [], true, [], [], []⟩),
  (87, ⟨.z, [0, 1, 4, 5], [], [], true, [], [], []⟩),
  (88, ⟨.z, [0, 1, 4], [], [], true, [], [], []⟩)]

noncomputable def ctx : Ctx := ⟨Try.prog, fun t => (tiTab[t]?).join, fun t => eqTab.contains t, hintOf hints, 70000⟩

theorem ctx_ok : CtxOK ctx := ctxOK_of (C := ctx) 102 tiTab rfl (by kernel_rfl) (by kernel_rfl) eqTab rfl (by kernel_rfl) (by kernel_rfl) (by kernel_rfl)
theorem codes_ok : CodesOK ctx := codesOK_of (C := ctx) hints rfl (by kernel_rfl)

theorem fun_3 : ctx.P.funcs[3]? = some Try.f3 := Try.func3
theorem fun_4 : ctx.P.funcs[4]? = some Try.f4 := Try.func4
theorem fun_5 : ctx.P.funcs[5]? = some Try.f5 := Try.func5
theorem fun_6 : ctx.P.funcs[6]? = some Try.f6 := Try.func6
theorem fun_7 : ctx.P.funcs[7]? = some Try.f7 := Try.func7
theorem fun_8 : ctx.P.funcs[8]? = some Try.f8 := Try.func8
theorem fun_9 : ctx.P.funcs[9]? = some Try.f9 := Try.func9
theorem fun_10 : ctx.P.funcs[10]? = some Try.f10 := Try.func10
theorem fun_11 : ctx.P.funcs[11]? = some Try.f11 := Try.func11
theorem fun_12 : ctx.P.funcs[12]? = some Try.f12 := Try.func12
theorem fun_13 : ctx.P.funcs[13]? = some Try.f13 := Try.func13
theorem fun_14 : ctx.P.funcs[14]? = some Try.f14 := Try.func14
theorem fun_15 : ctx.P.funcs[15]? = some Try.f15 := Try.func15
theorem fun_16 : ctx.P.funcs[16]? = some Try.f16 := Try.func16
theorem fun_17 : ctx.P.funcs[17]? = some Try.f17 := Try.func17
theorem fun_18 : ctx.P.funcs[18]? = some Try.f18 := Try.func18
theorem fun_19 : ctx.P.funcs[19]? = some Try.f19 := Try.func19
theorem fun_20 : ctx.P.funcs[20]? = some Try.f20 := Try.func20
theorem fun_21 : ctx.P.funcs[21]? = some Try.f21 := Try.func21
theorem fun_22 : ctx.P.funcs[22]? = some Try.f22 := Try.func22
theorem fun_23 : ctx.P.funcs[23]? = some Try.f23 := Try.func23
theorem fun_24 : ctx.P.funcs[24]? = some Try.f24 := Try.func24
theorem fun_25 : ctx.P.funcs[25]? = some Try.f25 := Try.func25
theorem fun_26 : ctx.P.funcs[26]? = some Try.f26 := Try.func26
theorem fun_27 : ctx.P.funcs[27]? = some Try.f27 := Try.func27
theorem fun_28 : ctx.P.funcs[28]? = some Try.f28 := Try.func28
theorem fun_29 : ctx.P.funcs[29]? = some Try.f29 := Try.func29
theorem fun_30 : ctx.P.funcs[30]? = some Try.f30 := Try.func30
theorem fun_31 : ctx.P.funcs[31]? = some Try.f31 := Try.func31
theorem fun_32 : ctx.P.funcs[32]? = some Try.f32 := Try.func32
theorem fun_33 : ctx.P.funcs[33]? = some Try.f33 := Try.func33
theorem fun_34 : ctx.P.funcs[34]? = some Try.f34 := Try.func34
theorem fun_35 : ctx.P.funcs[35]? = some Try.f35 := Try.func35
theorem fun_36 : ctx.P.funcs[36]? = some Try.f36 := Try.func36
theorem fun_37 : ctx.P.funcs[37]? = some Try.f37 := Try.func37
theorem fun_38 : ctx.P.funcs[38]? = some Try.f38 := Try.func38
theorem fun_39 : ctx.P.funcs[39]? = some Try.f39 := Try.func39
theorem fun_40 : ctx.P.funcs[40]? = some Try.f40 := Try.func40
theorem fun_41 : ctx.P.funcs[41]? = some Try.f41 := Try.func41
theorem fun_42 : ctx.P.funcs[42]? = some Try.f42 := Try.func42
theorem fun_43 : ctx.P.funcs[43]? = some Try.f43 := Try.func43
theorem fun_44 : ctx.P.funcs[44]? = some Try.f44 := Try.func44
theorem fun_45 : ctx.P.funcs[45]? = some Try.f45 := Try.func45
theorem fun_46 : ctx.P.funcs[46]? = some Try.f46 := Try.func46
theorem fun_47 : ctx.P.funcs[47]? = some Try.f47 := Try.func47
theorem fun_48 : ctx.P.funcs[48]? = some Try.f48 := Try.func48
theorem fun_49 : ctx.P.funcs[49]? = some Try.f49 := Try.func49
theorem fun_50 : ctx.P.funcs[50]? = some Try.f50 := Try.func50
theorem fun_51 : ctx.P.funcs[51]? = some Try.f51 := Try.func51
theorem fun_52 : ctx.P.funcs[52]? = some Try.f52 := Try.func52
theorem fun_53 : ctx.P.funcs[53]? = some Try.f53 := Try.func53
theorem fun_54 : ctx.P.funcs[54]? = some Try.f54 := Try.func54
theorem fun_55 : ctx.P.funcs[55]? = some Try.f55 := Try.func55
theorem fun_56 : ctx.P.funcs[56]? = some Try.f56 := Try.func56
theorem fun_57 : ctx.P.funcs[57]? = some Try.f57 := Try.func57
theorem fun_58 : ctx.P.funcs[58]? = some Try.f58 := Try.func58
theorem fun_59 : ctx.P.funcs[59]? = some Try.f59 := Try.func59
theorem fun_60 : ctx.P.funcs[60]? = some Try.f60 := Try.func60
theorem fun_61 : ctx.P.funcs[61]? = some Try.f61 := Try.func61
theorem fun_62 : ctx.P.funcs[62]? = some Try.f62 := Try.func62
theorem fun_63 : ctx.P.funcs[63]? = some Try.f63 := Try.func63
theorem fun_64 : ctx.P.funcs[64]? = some Try.f64 := Try.func64
theorem fun_65 : ctx.P.funcs[65]? = some Try.f65 := Try.func65
theorem fun_66 : ctx.P.funcs[66]? = some Try.f66 := Try.func66
theorem fun_67 : ctx.P.funcs[67]? = some Try.f67 := Try.func67
theorem fun_68 : ctx.P.funcs[68]? = some Try.f68 := Try.func68
theorem fun_69 : ctx.P.funcs[69]? = some Try.f69 := Try.func69
theorem fun_70 : ctx.P.funcs[70]? = some Try.f70 := Try.func70
theorem fun_71 : ctx.P.funcs[71]? = some Try.f71 := Try.func71
theorem fun_72 : ctx.P.funcs[72]? = some Try.f72 := Try.func72
theorem fun_73 : ctx.P.funcs[73]? = some Try.f73 := Try.func73
theorem fun_74 : ctx.P.funcs[74]? = some Try.f74 := Try.func74
theorem fun_75 : ctx.P.funcs[75]? = some Try.f75 := Try.func75
theorem fun_76 : ctx.P.funcs[76]? = some Try.f76 := Try.func76
theorem fun_77 : ctx.P.funcs[77]? = some Try.f77 := Try.func77
theorem fun_78 : ctx.P.funcs[78]? = some Try.f78 := Try.func78
theorem fun_79 : ctx.P.funcs[79]? = some Try.f79 := Try.func79
theorem fun_80 : ctx.P.funcs[80]? = some Try.f80 := Try.func80
theorem fun_81 : ctx.P.funcs[81]? = some Try.f81 := Try.func81
theorem fun_82 : ctx.P.funcs[82]? = some Try.f82 := Try.func82
theorem fun_83 : ctx.P.funcs[83]? = some Try.f83 := Try.func83
theorem fun_84 : ctx.P.funcs[84]? = some Try.f84 := Try.func84
theorem fun_85 : ctx.P.funcs[85]? = some Try.f85 := Try.func85
theorem fun_86 : ctx.P.funcs[86]? = some Try.f86 := Try.func86
theorem fun_87 : ctx.P.funcs[87]? = some Try.f87 := Try.func87
theorem fun_88 : ctx.P.funcs[88]? = some Try.f88 := Try.func88
end Go.Den
