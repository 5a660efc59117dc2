/- Several texts of mine, one behind the other. Conditions: as each says. -/
import Derived.Test.YtebielkakdhelaaGreatDoorZM4
import Derived.Test.YtebielkakdhelaaGreatDoorZM5
set_option linter.unusedVariables false
set_option linter.unusedSimpArgs false
/- The engine's tables for this seat: types, and package-level tables. Made by a program. -/
section
namespace Go.Proofs.YtebielkakdhelaaGreatDoor
open Go Go.Eng

def glob_nameplan_record_rules : DV := .agg [.int .i64 0, .int .i64 0, .int .i64 0, .int .i64 0, .int .i64 0, .bool false, .bool false, .bool false, .int .i64 0, .int .i64 1, .int .i64 1000000, .int .i64 0, .int .i64 0, .bool false, .bool false, .bool true, .int .i64 1, .int .i64 0, .int .i64 0, .int .i64 0, .int .i64 0, .bool false, .bool false, .bool false, .int .i64 1, .int .i64 0, .int .i64 0, .int .i64 0, .int .i64 0, .bool false, .bool true, .bool false, .int .i64 0, .int .i64 0, .int .i64 65535, .int .i64 0, .int .i64 100000, .bool false, .bool true, .bool false, .int .i64 3, .int .i64 0, .int .i64 0, .int .i64 0, .int .i64 0, .bool false, .bool false, .bool true, .int .i64 0, .int .i64 1, .int .i64 1000000, .int .i64 1, .int .i64 3, .bool false, .bool false, .bool false, .int .i64 0, .int .i64 1, .int .i64 1000000, .int .i64 1, .int .i64 3, .bool false, .bool false, .bool false, .int .i64 2, .int .i64 2, .int .i64 510, .int .i64 0, .int .i64 0, .bool true, .bool false, .bool true]
def types : List TInfo := [
  ⟨.other, 1, 0, []⟩,
  ⟨.func, 1, 8, [.nilfn]⟩,
  ⟨.int .i64, 1, 8, [.int .i64 0]⟩,
  ⟨.int .i64, 1, 8, [.int .i64 0]⟩,
  ⟨.bool, 1, 1, [.bool false]⟩,
  ⟨.int .u8, 1, 1, [.int .u8 0]⟩,
  ⟨.int .u8, 1, 1, [.int .u8 0]⟩,
  ⟨.struct [(0, 2), (1, 3), (2, 4), (3, 6)], 4, 24, [.int .i64 0, .int .i64 0, .bool false, .int .u8 0]⟩,
  ⟨.struct [(0, 2), (1, 3), (2, 4), (3, 6)], 4, 24, [.int .i64 0, .int .i64 0, .bool false, .int .u8 0]⟩,
  ⟨.string, 1, 16, [.str []]⟩,
  ⟨.string, 1, 16, [.str []]⟩,
  ⟨.string, 1, 16, [.str []]⟩,
  ⟨.int .u64, 1, 8, [.int .u64 0]⟩,
  ⟨.struct [(0, 9), (1, 12)], 2, 24, [.str [], .int .u64 0]⟩,
  ⟨.struct [(0, 9), (1, 12)], 2, 24, [.str [], .int .u64 0]⟩,
  ⟨.pointer 262, 1, 8, [.nilptr]⟩,
  ⟨.pointer 265, 1, 8, [.nilptr]⟩,
  ⟨.pointer 273, 1, 8, [.nilptr]⟩,
  ⟨.struct [(0, 17)], 1, 8, [.nilptr]⟩,
  ⟨.struct [(0, 17)], 1, 8, [.nilptr]⟩,
  ⟨.iface, 1, 16, [.nilif]⟩,
  ⟨.int .i32, 1, 4, [.int .i32 0]⟩,
  ⟨.slice 39, 1, 24, [.nilsl]⟩,
  ⟨.struct [(0, 9), (1, 22)], 2, 40, [.str [], .nilsl]⟩,
  ⟨.struct [(0, 9), (1, 22)], 2, 40, [.str [], .nilsl]⟩,
  ⟨.slice 46, 1, 24, [.nilsl]⟩,
  ⟨.func, 1, 8, [.nilfn]⟩,
  ⟨.func, 1, 8, [.nilfn]⟩,
  ⟨.int .i64, 1, 8, [.int .i64 0]⟩,
  ⟨.other, 1, 0, []⟩,
  ⟨.func, 1, 8, [.nilfn]⟩,
  ⟨.slice 4, 1, 24, [.nilsl]⟩,
  ⟨.func, 1, 8, [.nilfn]⟩,
  ⟨.func, 1, 8, [.nilfn]⟩,
  ⟨.slice 101, 1, 24, [.nilsl]⟩,
  ⟨.struct [(0, 9), (1, 3), (2, 3), (3, 34)], 4, 56, [.str [], .int .i64 0, .int .i64 0, .nilsl]⟩,
  ⟨.struct [(0, 9), (1, 3), (2, 3), (3, 34)], 4, 56, [.str [], .int .i64 0, .int .i64 0, .nilsl]⟩,
  ⟨.slice 43, 1, 24, [.nilsl]⟩,
  ⟨.struct [(0, 36), (4, 37)], 5, 80, [.str [], .int .i64 0, .int .i64 0, .nilsl, .nilsl]⟩,
  ⟨.struct [(0, 36), (4, 37)], 5, 80, [.str [], .int .i64 0, .int .i64 0, .nilsl, .nilsl]⟩,
  ⟨.func, 1, 8, [.nilfn]⟩,
  ⟨.int .u64, 1, 8, [.int .u64 0]⟩,
  ⟨.struct [(0, 9), (1, 3), (2, 3), (3, 3), (4, 3), (5, 41)], 6, 56, [.str [], .int .i64 0, .int .i64 0, .int .i64 0, .int .i64 0, .int .u64 0]⟩,
  ⟨.struct [(0, 9), (1, 3), (2, 3), (3, 3), (4, 3), (5, 41)], 6, 56, [.str [], .int .i64 0, .int .i64 0, .int .i64 0, .int .i64 0, .int .u64 0]⟩,
  ⟨.func, 1, 8, [.nilfn]⟩,
  ⟨.struct [(0, 3), (1, 3)], 2, 16, [.int .i64 0, .int .i64 0]⟩,
  ⟨.struct [(0, 3), (1, 3)], 2, 16, [.int .i64 0, .int .i64 0]⟩,
  ⟨.func, 1, 8, [.nilfn]⟩,
  ⟨.func, 1, 8, [.nilfn]⟩,
  ⟨.slice 116, 1, 24, [.nilsl]⟩,
  ⟨.slice 114, 1, 24, [.nilsl]⟩,
  ⟨.slice 3, 1, 24, [.nilsl]⟩,
  ⟨.struct [(0, 49), (1, 50), (2, 36), (6, 51), (7, 3), (8, 3)], 9, 144, [.nilsl, .nilsl, .str [], .int .i64 0, .int .i64 0, .nilsl, .nilsl, .int .i64 0, .int .i64 0]⟩,
  ⟨.struct [(0, 49), (1, 50), (2, 36), (6, 51), (7, 3), (8, 3)], 9, 144, [.nilsl, .nilsl, .str [], .int .i64 0, .int .i64 0, .nilsl, .nilsl, .int .i64 0, .int .i64 0]⟩,
  ⟨.slice 77, 1, 24, [.nilsl]⟩,
  ⟨.struct [(0, 54), (1, 51), (2, 4), (3, 4)], 4, 56, [.nilsl, .nilsl, .bool false, .bool false]⟩,
  ⟨.struct [(0, 54), (1, 51), (2, 4), (3, 4)], 4, 56, [.nilsl, .nilsl, .bool false, .bool false]⟩,
  ⟨.struct [(0, 3), (1, 3), (2, 3), (3, 3)], 4, 32, [.int .i64 0, .int .i64 0, .int .i64 0, .int .i64 0]⟩,
  ⟨.struct [(0, 3), (1, 3), (2, 3), (3, 3)], 4, 32, [.int .i64 0, .int .i64 0, .int .i64 0, .int .i64 0]⟩,
  ⟨.func, 1, 8, [.nilfn]⟩,
  ⟨.func, 1, 8, [.nilfn]⟩,
  ⟨.func, 1, 8, [.nilfn]⟩,
  ⟨.other, 1, 0, []⟩,
  ⟨.func, 1, 8, [.nilfn]⟩,
  ⟨.func, 1, 8, [.nilfn]⟩,
  ⟨.func, 1, 8, [.nilfn]⟩,
  ⟨.func, 1, 8, [.nilfn]⟩,
  ⟨.func, 1, 8, [.nilfn]⟩,
  ⟨.other, 1, 0, []⟩,
  ⟨.func, 1, 8, [.nilfn]⟩,
  ⟨.func, 1, 8, [.nilfn]⟩,
  ⟨.func, 1, 8, [.nilfn]⟩,
  ⟨.func, 1, 8, [.nilfn]⟩,
  ⟨.slice 137, 1, 24, [.nilsl]⟩,
  ⟨.struct [(0, 73)], 1, 24, [.nilsl]⟩,
  ⟨.struct [(0, 73)], 1, 24, [.nilsl]⟩,
  ⟨.struct [(0, 3), (1, 75)], 2, 32, [.int .i64 0, .nilsl]⟩,
  ⟨.struct [(0, 3), (1, 75)], 2, 32, [.int .i64 0, .nilsl]⟩,
  ⟨.func, 1, 8, [.nilfn]⟩,
  ⟨.func, 1, 8, [.nilfn]⟩,
  ⟨.func, 1, 8, [.nilfn]⟩,
  ⟨.func, 1, 8, [.nilfn]⟩,
  ⟨.func, 1, 8, [.nilfn]⟩,
  ⟨.func, 1, 8, [.nilfn]⟩,
  ⟨.func, 1, 8, [.nilfn]⟩,
  ⟨.func, 1, 8, [.nilfn]⟩,
  ⟨.func, 1, 8, [.nilfn]⟩,
  ⟨.func, 1, 8, [.nilfn]⟩,
  ⟨.func, 1, 8, [.nilfn]⟩,
  ⟨.other, 1, 0, []⟩,
  ⟨.func, 1, 8, [.nilfn]⟩,
  ⟨.func, 1, 8, [.nilfn]⟩,
  ⟨.func, 1, 8, [.nilfn]⟩,
  ⟨.slice 5, 1, 24, [.nilsl]⟩,
  ⟨.func, 1, 8, [.nilfn]⟩,
  ⟨.func, 1, 8, [.nilfn]⟩,
  ⟨.func, 1, 8, [.nilfn]⟩,
  ⟨.func, 1, 8, [.nilfn]⟩,
  ⟨.func, 1, 8, [.nilfn]⟩,
  ⟨.func, 1, 8, [.nilfn]⟩,
  ⟨.struct [(0, 9), (1, 3), (2, 3)], 3, 32, [.str [], .int .i64 0, .int .i64 0]⟩,
  ⟨.struct [(0, 9), (1, 3), (2, 3)], 3, 32, [.str [], .int .i64 0, .int .i64 0]⟩,
  ⟨.slice 9, 1, 24, [.nilsl]⟩,
  ⟨.func, 1, 8, [.nilfn]⟩,
  ⟨.struct [(0, 24)], 2, 40, [.str [], .nilsl]⟩,
  ⟨.struct [(0, 24)], 2, 40, [.str [], .nilsl]⟩,
  ⟨.struct [(0, 105), (2, 102)], 3, 64, [.str [], .nilsl, .nilsl]⟩,
  ⟨.struct [(0, 105), (2, 102)], 3, 64, [.str [], .nilsl, .nilsl]⟩,
  ⟨.func, 1, 8, [.nilfn]⟩,
  ⟨.func, 1, 8, [.nilfn]⟩,
  ⟨.other, 1, 0, []⟩,
  ⟨.func, 1, 8, [.nilfn]⟩,
  ⟨.func, 1, 8, [.nilfn]⟩,
  ⟨.struct [(0, 3), (1, 3), (2, 3), (3, 24)], 5, 64, [.int .i64 0, .int .i64 0, .int .i64 0, .str [], .nilsl]⟩,
  ⟨.struct [(0, 3), (1, 3), (2, 3), (3, 24)], 5, 64, [.int .i64 0, .int .i64 0, .int .i64 0, .str [], .nilsl]⟩,
  ⟨.struct [(0, 9), (1, 3), (2, 3)], 3, 32, [.str [], .int .i64 0, .int .i64 0]⟩,
  ⟨.struct [(0, 9), (1, 3), (2, 3)], 3, 32, [.str [], .int .i64 0, .int .i64 0]⟩,
  ⟨.func, 1, 8, [.nilfn]⟩,
  ⟨.func, 1, 8, [.nilfn]⟩,
  ⟨.func, 1, 8, [.nilfn]⟩,
  ⟨.func, 1, 8, [.nilfn]⟩,
  ⟨.array 5 120, 5, 40, [.nilfn, .nilfn, .nilfn, .nilfn, .nilfn]⟩,
  ⟨.func, 1, 8, [.nilfn]⟩,
  ⟨.pointer 56, 1, 8, [.nilptr]⟩,
  ⟨.func, 1, 8, [.nilfn]⟩,
  ⟨.func, 1, 8, [.nilfn]⟩,
  ⟨.func, 1, 8, [.nilfn]⟩,
  ⟨.func, 1, 8, [.nilfn]⟩,
  ⟨.struct [(0, 49), (1, 73), (2, 36), (6, 51)], 7, 128, [.nilsl, .nilsl, .str [], .int .i64 0, .int .i64 0, .nilsl, .nilsl]⟩,
  ⟨.struct [(0, 49), (1, 73), (2, 36), (6, 51)], 7, 128, [.nilsl, .nilsl, .str [], .int .i64 0, .int .i64 0, .nilsl, .nilsl]⟩,
  ⟨.func, 1, 8, [.nilfn]⟩,
  ⟨.func, 1, 8, [.nilfn]⟩,
  ⟨.func, 1, 8, [.nilfn]⟩,
  ⟨.func, 1, 8, [.nilfn]⟩,
  ⟨.map 181 4, 1, 8, [.nilmap]⟩,
  ⟨.func, 1, 8, [.nilfn]⟩,
  ⟨.struct [(0, 3), (1, 24)], 3, 48, [.int .i64 0, .str [], .nilsl]⟩,
  ⟨.struct [(0, 3), (1, 24)], 3, 48, [.int .i64 0, .str [], .nilsl]⟩,
  ⟨.func, 1, 8, [.nilfn]⟩,
  ⟨.func, 1, 8, [.nilfn]⟩,
  ⟨.func, 1, 8, [.nilfn]⟩,
  ⟨.func, 1, 8, [.nilfn]⟩,
  ⟨.func, 1, 8, [.nilfn]⟩,
  ⟨.func, 1, 8, [.nilfn]⟩,
  ⟨.func, 1, 8, [.nilfn]⟩,
  ⟨.func, 1, 8, [.nilfn]⟩,
  ⟨.other, 1, 0, []⟩,
  ⟨.func, 1, 8, [.nilfn]⟩,
  ⟨.other, 1, 0, []⟩,
  ⟨.func, 1, 8, [.nilfn]⟩,
  ⟨.func, 1, 8, [.nilfn]⟩,
  ⟨.int .u64, 1, 8, [.int .u64 0]⟩,
  ⟨.func, 1, 8, [.nilfn]⟩,
  ⟨.func, 1, 8, [.nilfn]⟩,
  ⟨.func, 1, 8, [.nilfn]⟩,
  ⟨.func, 1, 8, [.nilfn]⟩,
  ⟨.struct [(0, 9), (1, 3)], 2, 24, [.str [], .int .i64 0]⟩,
  ⟨.struct [(0, 9), (1, 3)], 2, 24, [.str [], .int .i64 0]⟩,
  ⟨.func, 1, 8, [.nilfn]⟩,
  ⟨.func, 1, 8, [.nilfn]⟩,
  ⟨.func, 1, 8, [.nilfn]⟩,
  ⟨.func, 1, 8, [.nilfn]⟩,
  ⟨.int .u64, 1, 8, [.int .u64 0]⟩,
  ⟨.func, 1, 8, [.nilfn]⟩,
  ⟨.map 9 4, 1, 8, [.nilmap]⟩,
  ⟨.func, 1, 8, [.nilfn]⟩,
  ⟨.func, 1, 8, [.nilfn]⟩,
  ⟨.other, 1, 0, []⟩,
  ⟨.func, 1, 8, [.nilfn]⟩,
  ⟨.func, 1, 8, [.nilfn]⟩,
  ⟨.func, 1, 8, [.nilfn]⟩,
  ⟨.func, 1, 8, [.nilfn]⟩,
  ⟨.func, 1, 8, [.nilfn]⟩,
  ⟨.func, 1, 8, [.nilfn]⟩,
  ⟨.func, 1, 8, [.nilfn]⟩,
  ⟨.func, 1, 8, [.nilfn]⟩,
  ⟨.func, 1, 8, [.nilfn]⟩,
  ⟨.func, 1, 8, [.nilfn]⟩,
  ⟨.func, 1, 8, [.nilfn]⟩,
  ⟨.func, 1, 8, [.nilfn]⟩,
  ⟨.struct [(0, 3), (1, 9)], 2, 24, [.int .i64 0, .str []]⟩,
  ⟨.struct [(0, 3), (1, 9)], 2, 24, [.int .i64 0, .str []]⟩,
  ⟨.func, 1, 8, [.nilfn]⟩,
  ⟨.func, 1, 8, [.nilfn]⟩,
  ⟨.string, 1, 16, [.str []]⟩,
  ⟨.func, 1, 8, [.nilfn]⟩,
  ⟨.func, 1, 8, [.nilfn]⟩,
  ⟨.array 8 5, 8, 8, [.int .u8 0, .int .u8 0, .int .u8 0, .int .u8 0, .int .u8 0, .int .u8 0, .int .u8 0, .int .u8 0]⟩,
  ⟨.func, 1, 8, [.nilfn]⟩,
  ⟨.pointer 151, 1, 8, [.nilptr]⟩,
  ⟨.func, 1, 8, [.nilfn]⟩,
  ⟨.func, 1, 8, [.nilfn]⟩,
  ⟨.func, 1, 8, [.nilfn]⟩,
  ⟨.func, 1, 8, [.nilfn]⟩,
  ⟨.other, 1, 0, []⟩,
  ⟨.func, 1, 8, [.nilfn]⟩,
  ⟨.func, 1, 8, [.nilfn]⟩,
  ⟨.int .i64, 1, 8, [.int .i64 0]⟩,
  ⟨.other, 1, 0, []⟩,
  ⟨.func, 1, 8, [.nilfn]⟩,
  ⟨.func, 1, 8, [.nilfn]⟩,
  ⟨.func, 1, 8, [.nilfn]⟩,
  ⟨.func, 1, 8, [.nilfn]⟩,
  ⟨.func, 1, 8, [.nilfn]⟩,
  ⟨.int .u32, 1, 4, [.int .u32 0]⟩,
  ⟨.func, 1, 8, [.nilfn]⟩,
  ⟨.struct [(0, 3), (1, 3), (2, 3), (3, 3), (4, 3), (5, 4), (6, 4), (7, 4)], 8, 48, [.int .i64 0, .int .i64 0, .int .i64 0, .int .i64 0, .int .i64 0, .bool false, .bool false, .bool false]⟩,
  ⟨.struct [(0, 3), (1, 3), (2, 3), (3, 3), (4, 3), (5, 4), (6, 4), (7, 4)], 8, 48, [.int .i64 0, .int .i64 0, .int .i64 0, .int .i64 0, .int .i64 0, .bool false, .bool false, .bool false]⟩,
  ⟨.array 9 207, 72, 432, [.int .i64 0, .int .i64 0, .int .i64 0, .int .i64 0, .int .i64 0, .bool false, .bool false, .bool false, .int .i64 0, .int .i64 0, .int .i64 0, .int .i64 0, .int .i64 0, .bool false, .bool false, .bool false, .int .i64 0, .int .i64 0, .int .i64 0, .int .i64 0, .int .i64 0, .bool false, .bool false, .bool false, .int .i64 0, .int .i64 0, .int .i64 0, .int .i64 0, .int .i64 0, .bool false, .bool false, .bool false, .int .i64 0, .int .i64 0, .int .i64 0, .int .i64 0, .int .i64 0, .bool false, .bool false, .bool false, .int .i64 0, .int .i64 0, .int .i64 0, .int .i64 0, .int .i64 0, .bool false, .bool false, .bool false, .int .i64 0, .int .i64 0, .int .i64 0, .int .i64 0, .int .i64 0, .bool false, .bool false, .bool false, .int .i64 0, .int .i64 0, .int .i64 0, .int .i64 0, .int .i64 0, .bool false, .bool false, .bool false, .int .i64 0, .int .i64 0, .int .i64 0, .int .i64 0, .int .i64 0, .bool false, .bool false, .bool false]⟩,
  ⟨.func, 1, 8, [.nilfn]⟩,
  ⟨.func, 1, 8, [.nilfn]⟩,
  ⟨.func, 1, 8, [.nilfn]⟩,
  ⟨.func, 1, 8, [.nilfn]⟩,
  ⟨.func, 1, 8, [.nilfn]⟩,
  ⟨.map 216 217, 1, 8, [.nilmap]⟩,
  ⟨.struct [(0, 3), (1, 9)], 2, 24, [.int .i64 0, .str []]⟩,
  ⟨.struct [(0, 3), (1, 9)], 2, 24, [.int .i64 0, .str []]⟩,
  ⟨.slice 219, 1, 24, [.nilsl]⟩,
  ⟨.struct [(0, 3), (1, 3)], 2, 16, [.int .i64 0, .int .i64 0]⟩,
  ⟨.struct [(0, 3), (1, 3)], 2, 16, [.int .i64 0, .int .i64 0]⟩,
  ⟨.func, 1, 8, [.nilfn]⟩,
  ⟨.func, 1, 8, [.nilfn]⟩,
  ⟨.func, 1, 8, [.nilfn]⟩,
  ⟨.func, 1, 8, [.nilfn]⟩,
  ⟨.pointer 39, 1, 8, [.nilptr]⟩,
  ⟨.func, 1, 8, [.nilfn]⟩,
  ⟨.func, 1, 8, [.nilfn]⟩,
  ⟨.func, 1, 8, [.nilfn]⟩,
  ⟨.int .u64, 1, 8, [.int .u64 0]⟩,
  ⟨.func, 1, 8, [.nilfn]⟩,
  ⟨.func, 1, 8, [.nilfn]⟩,
  ⟨.func, 1, 8, [.nilfn]⟩,
  ⟨.pointer 3, 1, 8, [.nilptr]⟩,
  ⟨.func, 1, 8, [.nilfn]⟩,
  ⟨.func, 1, 8, [.nilfn]⟩,
  ⟨.func, 1, 8, [.nilfn]⟩,
  ⟨.func, 1, 8, [.nilfn]⟩,
  ⟨.other, 1, 0, []⟩,
  ⟨.func, 1, 8, [.nilfn]⟩,
  ⟨.func, 1, 8, [.nilfn]⟩,
  ⟨.pointer 228, 1, 8, [.nilptr]⟩,
  ⟨.other, 1, 0, []⟩,
  ⟨.func, 1, 8, [.nilfn]⟩,
  ⟨.func, 1, 8, [.nilfn]⟩,
  ⟨.map 3 4, 1, 8, [.nilmap]⟩,
  ⟨.map 247 4, 1, 8, [.nilmap]⟩,
  ⟨.struct [(0, 3), (1, 9)], 2, 24, [.int .i64 0, .str []]⟩,
  ⟨.struct [(0, 3), (1, 9)], 2, 24, [.int .i64 0, .str []]⟩,
  ⟨.func, 1, 8, [.nilfn]⟩,
  ⟨.func, 1, 8, [.nilfn]⟩,
  ⟨.func, 1, 8, [.nilfn]⟩,
  ⟨.func, 1, 8, [.nilfn]⟩,
  ⟨.func, 1, 8, [.nilfn]⟩,
  ⟨.func, 1, 8, [.nilfn]⟩,
  ⟨.other, 1, 0, []⟩,
  ⟨.func, 1, 8, [.nilfn]⟩,
  ⟨.func, 1, 8, [.nilfn]⟩,
  ⟨.func, 1, 8, [.nilfn]⟩,
  ⟨.func, 1, 8, [.nilfn]⟩,
  ⟨.func, 1, 8, [.nilfn]⟩,
  ⟨.func, 1, 8, [.nilfn]⟩,
  ⟨.struct [(0, 17), (1, 17), (2, 17), (3, 9)], 4, 40, [.nilptr, .nilptr, .nilptr, .str []]⟩,
  ⟨.struct [(0, 17), (1, 17), (2, 17), (3, 9)], 4, 40, [.nilptr, .nilptr, .nilptr, .str []]⟩,
  ⟨.array 0 16, 0, 0, []⟩,
  ⟨.struct [(0, 263)], 0, 0, []⟩,
  ⟨.struct [(0, 263)], 0, 0, []⟩,
  ⟨.int .u8, 1, 1, [.int .u8 0]⟩,
  ⟨.int .u8, 1, 1, [.int .u8 0]⟩,
  ⟨.func, 1, 8, [.nilfn]⟩,
  ⟨.pointer 5, 1, 8, [.nilptr]⟩,
  ⟨.int .i32, 1, 4, [.int .i32 0]⟩,
  ⟨.int .i32, 1, 4, [.int .i32 0]⟩,
  ⟨.struct [(0, 12), (1, 12), (2, 204), (3, 266), (4, 5), (5, 5), (6, 267), (7, 268), (8, 269), (9, 270), (10, 271)], 11, 48, [.int .u64 0, .int .u64 0, .int .u32 0, .int .u8 0, .int .u8 0, .int .u8 0, .int .u8 0, .nilfn, .nilptr, .int .i32 0, .int .i32 0]⟩,
  ⟨.struct [(0, 12), (1, 12), (2, 204), (3, 266), (4, 5), (5, 5), (6, 267), (7, 268), (8, 269), (9, 270), (10, 271)], 11, 48, [.int .u64 0, .int .u64 0, .int .u32 0, .int .u8 0, .int .u8 0, .int .u8 0, .int .u8 0, .nilfn, .nilptr, .int .i32 0, .int .i32 0]⟩,
  ⟨.other, 1, 8, [.nilptr]⟩]
def globs : List (Nat × DV) := [(0, glob_nameplan_record_rules)]
noncomputable def E : Env := ⟨Tryz.prog, types, globs, [43, 46, 58, 101, 116, 157, 181, 207, 216, 219, 247]⟩

theorem E_mixed : E.P.follows .mixedOrders = true := by kernel_rfl
theorem types_all : (List.range 275).map (tinfo Tryz.prog) = types.map some := by kernel_rfl
theorem eqs_all : E.Q.all (eqType E.P) = true := by kernel_rfl
theorem E_ok : E.OK := ⟨fun t i hi => by
  have h := congrArg (·[t]?) types_all
  simp only [List.getElem?_map] at h
  have hi' : types[t]? = some i := hi
  rw [hi'] at h
  cases hr : (List.range 275)[t]? with
  | none => rw [hr] at h; cases h
  | some u =>
    have hu : u = t := by
      have hlt : t < 275 := by
        rcases Nat.lt_or_ge t 275 with h | h
        · exact h
        · rw [List.getElem?_eq_none (by simpa using h)] at hr; cases hr
      simp [hlt] at hr
      exact hr.symm
    subst hu
    rw [hr] at h
    have h2 : tinfo Tryz.prog u = some i := by simpa using h
    exact h2, fun t ht => List.all_eq_true.1 eqs_all t ht⟩

end Go.Proofs.YtebielkakdhelaaGreatDoor
end

/- The data of package api as plain structures, and how they stand as pure values. No conditions. -/
section
namespace Go.Proofs.YtebielkakdhelaaGreatDoor.P
open Go Go.Eng

abbrev Text := List UInt8
structure Datum where
  text : Text
  n : Int
  m : Int
  deriving DecidableEq
structure RSet where
  name : Text
  type : Int
  life : Int
  data : List Datum
  deriving DecidableEq
structure Key where
  n : Int
  alg : Int
  deriving DecidableEq
structure Sig where
  zone : Text
  key : Int
  alg : Int
  frm : Int
  upto : Int
  sum : Int
  deriving DecidableEq
structure Signed where
  set : RSet
  sigs : List Sig
  deriving DecidableEq
structure Zone where
  apex : Text
  sets : List Signed
  deriving DecidableEq

@[reducible] def Datum.enc (d : Datum) : DV := .agg [.str d.text, .int .i64 d.n, .int .i64 d.m]
@[reducible] def encData (l : List Datum) : DV := .sl (l.map Datum.enc)
@[reducible] def RSet.enc (s : RSet) : DV := .agg [.str s.name, .int .i64 s.type, .int .i64 s.life, encData s.data]
@[reducible] def Key.enc (k : Key) : DV := .agg [.int .i64 k.n, .int .i64 k.alg]
@[reducible] def Sig.enc (g : Sig) : DV := .agg [.str g.zone, .int .i64 g.key, .int .i64 g.alg, .int .i64 g.frm, .int .i64 g.upto, .int .u64 g.sum]
@[reducible] def encSigs (l : List Sig) : DV := .sl (l.map Sig.enc)
@[reducible] def Signed.enc (x : Signed) : DV := .agg [.str x.set.name, .int .i64 x.set.type, .int .i64 x.set.life, encData x.set.data, encSigs x.sigs]
@[reducible] def encSets (l : List Signed) : DV := .sl (l.map Signed.enc)
@[reducible] def Zone.enc (z : Zone) : DV := .agg [.str z.apex, encSets z.sets]

/-- A number of Go's int. -/
def I64 (n : Int) : Prop := -9223372036854775808 ≤ n ∧ n ≤ 9223372036854775807

theorem wrap64 {n : Int} (h1 : -9223372036854775808 ≤ n) (h2 : n ≤ 9223372036854775807) : IntKind.i64.wrap n = n := by
  rw [IntWalk.i64_in n ⟨h1, h2⟩]

end Go.Proofs.YtebielkakdhelaaGreatDoor.P
end

/- Contracts by the engine: comparisons, and record's small functions. Conditions: as each says. -/
section
namespace Go.Proofs.YtebielkakdhelaaGreatDoor.P
open Go Go.Eng
set_option maxRecDepth 100000

/-- A contract of the elder kind, of one text. -/
theorem ofText {f : FuncId} {g : List UInt8 → DV} (t : List UInt8) (hb : HasBody E.P f) (h : ∀ (w : World), Calls Tryz.prog f #[.string ⟨t.toArray⟩] w fun e w' => ∃ v, e = .returned v ∧ (∀ bad w, VD bad w (g t) v) ∧ Ext w w') : PCalls E f [.str t] (· = g t) := by
  unfold PCalls
  refine ⟨hb, fun bar w vs _ _ hv => ?_⟩
  obtain ⟨hl, hv⟩ := hv
  obtain ⟨v, rfl⟩ : ∃ v, vs = [v] := by
    cases vs with
    | nil => simp at hl
    | cons v r => cases r with
      | nil => exact ⟨v, rfl⟩
      | cons u r => simp at hl
  have := hv 0 (.str t) v rfl rfl
  cases this
  exact (h w).mono fun e w' ⟨v, h1, h2, h3⟩ => ⟨v, _, h1, rfl, h2 _ _, h3⟩
theorem ofTexts {f : FuncId} {g : List UInt8 → List UInt8 → DV} (t u : List UInt8) (hb : HasBody E.P f) (h : ∀ (w : World), Calls Tryz.prog f #[.string ⟨t.toArray⟩, .string ⟨u.toArray⟩] w fun e w' => ∃ v, e = .returned v ∧ (∀ bad w, VD bad w (g t u) v) ∧ Ext w w') : PCalls E f [.str t, .str u] (· = g t u) := by
  unfold PCalls
  refine ⟨hb, fun bar w vs _ _ hv => ?_⟩
  obtain ⟨hl, hv⟩ := hv
  obtain ⟨v1, v2, rfl⟩ : ∃ v1 v2, vs = [v1, v2] := by
    match vs, hl with
    | [v1, v2], _ => exact ⟨v1, v2, rfl⟩
  have h1 := hv 0 (.str t) v1 rfl rfl
  have h2 := hv 1 (.str u) v2 rfl rfl
  cases h1
  cases h2
  exact (h w).mono fun e w' ⟨v, h1, h2, h3⟩ => ⟨v, _, h1, rfl, h2 _ _, h3⟩

theorem toL_mk (t : List UInt8) : toL ⟨t.toArray⟩ = t := by simp [toL]
theorem size_mk {t : List UInt8} (h : t.length ≤ maxLen) : (ByteArray.mk t.toArray).size ≤ maxLen := by simpa [ByteArray.size] using h

theorem nvalid_p (t : List UInt8) (ht : t.length ≤ maxLen) : PCalls E 100 [.str t] (· = .bool (Nm.valid t)) :=
  ofText (g := fun t => .bool (Nm.valid t)) t ⟨_, Tryz.func100, rfl, by decide⟩ fun w => (nvalid_any ⟨t.toArray⟩ w (size_mk ht)).mono fun e w' ⟨h1, h2⟩ => ⟨_, h1, fun _ _ => by rw [toL_mk]; exact .bool _, h2⟩
theorem rvalid_p (t : List UInt8) (ht : t.length ≤ maxLen) : PCalls E 106 [.str t] (· = .bool (Nm.valid t)) :=
  ofText (g := fun t => .bool (Nm.valid t)) t ⟨_, Tryz.func106, rfl, by decide⟩ fun w => (rvalid1_any ⟨t.toArray⟩ w (size_mk ht)).mono fun e w' ⟨h1, h2⟩ => ⟨_, h1, fun _ _ => by rw [toL_mk]; exact .bool _, h2⟩
theorem rwild_p (t : List UInt8) (ht : t.length ≤ maxLen) : PCalls E 151 [.str t] (· = .bool (Nm.wild t)) :=
  ofText (g := fun t => .bool (Nm.wild t)) t ⟨_, Tryz.func151, rfl, by decide⟩ fun w => (rwild_any ⟨t.toArray⟩ w (size_mk ht)).mono fun e w' ⟨h1, h2⟩ => ⟨_, h1, fun _ _ => by rw [toL_mk]; exact .bool _, by subst h2; exact Ext.refl _⟩

theorem within_p (x a b : Int) : PCalls E 166 [.int .i64 x, .int .i64 a, .int .i64 b] (· = .bool (decide (a ≤ x) && decide (x ≤ b))) := by
  refine PCalls.run E_ok (fn := Tryz.f166) Tryz.func166 (body := Tryz.f166.body.getD .skip) rfl (by decide) 2000 ?_
  conv => whnf
  refine caseB_split (fun h => ?_) (fun h => ?_)
  · conv => whnf
    refine AWL.run E_ok Tryz.func166 2000 ?_
    conv => whnf
    rw [h]; rfl
  · conv => whnf
    refine AWL.run E_ok Tryz.func166 2000 ?_
    conv => whnf
    rw [h]; rfl

theorem withinb_p (x a b : Int) : PCalls E 201 [.int .u8 x, .int .u8 a, .int .u8 b] (· = .bool (decide (a ≤ x) && decide (x ≤ b))) := by
  refine PCalls.run E_ok (fn := Tryz.f201) Tryz.func201 (body := Tryz.f201.body.getD .skip) rfl (by decide) 2000 ?_
  conv => whnf
  refine caseB_split (fun h => ?_) (fun h => ?_)
  · conv => whnf
    refine AWL.run E_ok Tryz.func201 2000 ?_
    conv => whnf
    rw [h]; rfl
  · conv => whnf
    refine AWL.run E_ok Tryz.func201 2000 ?_
    conv => whnf
    rw [h]; rfl

theorem isNaNi_p (x : Int) : PCalls E 116 [.int .i64 x] (· = .bool false) := by
  refine PCalls.run E_ok (fn := Tryz.f116) Tryz.func116 (body := Tryz.f116.body.getD .skip) rfl (by decide) 2000 ?_
  conv => whnf
  simp
theorem isNaNs_p (x : List UInt8) : PCalls E 202 [.str x] (· = .bool false) := by
  refine PCalls.run E_ok (fn := Tryz.f202) Tryz.func202 (body := Tryz.f202.body.getD .skip) rfl (by decide) 2000 ?_
  conv => whnf
  simp

def cmpI (a b : Int) : Int := if a < b then -1 else if b < a then 1 else 0
theorem cmpI_p (a b : Int) : PCalls E 56 [.int .i64 a, .int .i64 b] (· = .int .i64 (cmpI a b)) := by
  refine PCalls.run E_ok (fn := Tryz.f56) Tryz.func56 (body := Tryz.f56.body.getD .skip) rfl (by decide) 2000 ?_
  conv => whnf
  repeat' (first | with_reducible refine callP_eq (isNaNi_p _) ?_ | with_reducible refine callP1_eq (isNaNi_p _) ?_ | with_reducible refine caseB_true ?_ | with_reducible refine caseB_false ?_ | with_reducible refine caseB_yes (by decide) ?_ | with_reducible refine caseB_no (by decide) ?_ | with_reducible refine caseB_yes (by assumption) ?_ | with_reducible refine caseB_no (by assumption) ?_ | with_reducible refine caseB_split (fun _ => ?_) (fun _ => ?_) | ((conv => whnf); (with_reducible refine AWL.run E_ok Tryz.func56 2000 ?_); (conv => whnf); fail_if_success (with_reducible refine AWL.of ?_)) | ((conv => whnf); (with_reducible refine DWL.run E_ok 2000 ?_); (conv => whnf); fail_if_success (with_reducible refine DWL.is ?_)) | ((conv => whnf); (with_reducible refine SWL.run E_ok 2000 ?_); (conv => whnf); fail_if_success (with_reducible refine SWL.is ?_)))
  all_goals (simp_all [cmpI])
  all_goals omega

def cmpS (a b : List UInt8) : Int := if Op.bytesLess a b then -1 else if a = b then 0 else 1
theorem cmpS_p (a b : List UInt8) : PCalls E 192 [.str a, .str b] (· = .int .i64 (cmpS a b)) := by
  refine PCalls.run E_ok (fn := Tryz.f192) Tryz.func192 (body := Tryz.f192.body.getD .skip) rfl (by decide) 2000 ?_
  conv => whnf
  repeat' (first | with_reducible refine callP_eq (isNaNs_p _) ?_ | with_reducible refine callP1_eq (isNaNs_p _) ?_ | with_reducible refine caseB_true ?_ | with_reducible refine caseB_false ?_ | with_reducible refine caseB_yes (by decide) ?_ | with_reducible refine caseB_no (by decide) ?_ | with_reducible refine caseB_yes (by assumption) ?_ | with_reducible refine caseB_no (by assumption) ?_ | with_reducible refine caseB_split (fun _ => ?_) (fun _ => ?_) | ((conv => whnf); (with_reducible refine AWL.run E_ok Tryz.func192 2000 ?_); (conv => whnf); fail_if_success (with_reducible refine AWL.of ?_)) | ((conv => whnf); (with_reducible refine DWL.run E_ok 2000 ?_); (conv => whnf); fail_if_success (with_reducible refine DWL.is ?_)) | ((conv => whnf); (with_reducible refine SWL.run E_ok 2000 ?_); (conv => whnf); fail_if_success (with_reducible refine SWL.is ?_)))
  all_goals (simp_all [cmpS])

end Go.Proofs.YtebielkakdhelaaGreatDoor.P
end

/- Contracts by the engine: record.Valid and what it calls. Conditions: texts and lists of lengths that Go allows. -/
section
namespace Go.Proofs.YtebielkakdhelaaGreatDoor.P
open Go Go.Eng
set_option maxRecDepth 100000

theorem elem_map {α : Type} {f : α → DV} {l : List α} {k : Nat} {x : α} (hx : l[k]? = some x) : (l.map f)[((k : Nat) : Int).toNat]? = some (f x) := by
  simp [hx]
theorem some_of_lt {α : Type} {l : List α} {k : Nat} (h : k < l.length) : ∃ x, l[k]? = some x := ⟨l[k], by simp [h]⟩

def orI : List Int → Int
  | [] => 0
  | x :: l => if x = 0 then orI l else x
theorem orI_zero {l : List Int} : ∀ {k : Nat}, (∀ j, j < k → l[j]? = some 0) → orI l = orI (l.drop k)
  | 0, _ => rfl
  | k + 1, h => by
    cases l with
    | nil => rfl
    | cons x l =>
      have h0 := h 0 (by omega)
      simp at h0
      subst h0
      simp only [orI, if_true, List.drop_succ_cons]
      exact orI_zero fun j hj => by have := h (j + 1) (by omega); simpa using this

theorem orI_p (l : List Int) (hl : l.length ≤ 2147483648) : PCalls E 191 [.sl (l.map (.int .i64))] (· = .int .i64 (orI l)) := by
  refine PCalls.run E_ok (fn := Tryz.f191) Tryz.func191 (body := Tryz.f191.body.getD .skip) rfl (by decide) 2000 ?_
  conv => whnf
  refine AWL.loop (κ := Nat) [2, 5, 8, 9, 10, 11, 12, 13, 14, 15, 16] (fun k => [(8, .d (.int .i64 k)), (2, .d (.int .i64 0))]) (fun _ => []) (fun k => k ≤ l.length ∧ ∀ j, j < k → l[j]? = some 0) (fun k => l.length - k) 0 ⟨Nat.zero_le _, fun j h => by omega⟩ ?_ ?_
  · conv => whnf
    repeat (first | exact trivial | (refine And.intro (by first | with_reducible rfl | exact congrArg (DV.int .i64) (by omega) | exact congrArg (DV.int .i64) (wrap64 (by omega) (by omega)) | exact congrArg (DV.int .i64) ((wrap64 (by omega) (by omega)).trans (by omega))) ?_; conv => whnf))
  · intro k hk IH
    refine AWL.head E_ok Tryz.func191 2000 ?_
    conv => whnf
    refine caseB_split (fun h1 => ?_) (fun h1 => ?_)
    · simp at h1
      obtain ⟨x, hx⟩ := some_of_lt h1
      conv => whnf
      refine AWL.run E_ok Tryz.func191 2000 ?_
      conv => whnf
      refine elemP_intro (.int .i64 x) (by omega) (elem_map hx) rfl ?_
      conv => whnf
      refine AWL.run E_ok Tryz.func191 2000 ?_
      conv => whnf
      refine caseB_split (fun h2 => ?_) (fun h2 => ?_)
      · conv => whnf
        refine AWL.run E_ok Tryz.func191 2000 ?_
        conv => whnf
        have hne : x ≠ 0 := by simpa using h2
        rw [orI_zero hk.2, List.drop_eq_getElem_cons h1]
        have : l[k] = x := by simpa [h1] using hx
        simp only [orI, this, if_neg hne]
      · conv => whnf
        refine AWL.run E_ok Tryz.func191 2000 ?_
        conv => whnf
        have h0 : x = 0 := by simpa using h2
        subst h0
        refine AWL.back (IH (k + 1) ⟨by omega, fun j hj => ?_⟩ (by omega)) ?_
        · rcases Nat.lt_or_ge j k with h | h
          · exact hk.2 j h
          · obtain rfl : j = k := by omega
            exact hx
        · conv => whnf
          repeat (first | exact trivial | (refine And.intro (by first | with_reducible rfl | exact congrArg (DV.int .i64) (by omega) | exact congrArg (DV.int .i64) (wrap64 (by omega) (by omega)) | exact congrArg (DV.int .i64) ((wrap64 (by omega) (by omega)).trans (by omega))) ?_; conv => whnf))
    · simp at h1
      conv => whnf
      refine AWL.run E_ok Tryz.func191 2000 ?_
      conv => whnf
      rw [orI_zero hk.2, List.drop_of_length_le h1]
      rfl

def cmpD (a b : Datum) : Int := orI [cmpS a.text b.text, cmpI a.n b.n, cmpI a.m b.m]
theorem cmpD_p (a b : Datum) : PCalls E 169 [a.enc, b.enc] (· = .int .i64 (cmpD a b)) := by
  refine PCalls.run E_ok (fn := Tryz.f169) Tryz.func169 (body := Tryz.f169.body.getD .skip) rfl (by decide) 2000 ?_
  conv => whnf
  refine AWL.draw E_ok E_mixed 18 2000 (by kernel_rfl) ?_
  conv => whnf
  with_reducible refine callP1_eq (cmpS_p _ _) ?_
  conv => whnf
  refine DWL.run E_ok 2000 ?_
  conv => whnf
  with_reducible refine callP1_eq (cmpI_p _ _) ?_
  conv => whnf
  refine DWL.run E_ok 2000 ?_
  conv => whnf
  with_reducible refine callP1_eq (cmpI_p _ _) ?_
  conv => whnf
  refine DWL.run E_ok 2000 ?_
  conv => whnf
  refine callP1_eq (orI_p [cmpS a.text b.text, cmpI a.n b.n, cmpI a.m b.m] (by simp)) ?_
  conv => whnf
  refine DWL.run E_ok 2000 ?_
  conv => whnf
  conv => whnf
  refine SWL.run E_ok 2000 ?_
  conv => whnf
  conv => whnf
  refine AWL.run E_ok Tryz.func169 2000 ?_
  conv => whnf
  rfl

def preB (a b : List UInt8) : Bool := b.isPrefixOf a
theorem pre_take {a b : List UInt8} : (a.take b.length == b) = preB a b := by
  unfold preB
  rw [Bool.eq_iff_iff, beq_iff_eq, List.isPrefixOf_iff_prefix]
  constructor
  · intro e; rw [← e]; exact List.take_prefix _ _
  · intro e; exact (List.prefix_iff_eq_take.1 e).symm
theorem pre_long {a b : List UInt8} (h : a.length < b.length) : preB a b = false := by
  unfold preB
  rw [Bool.eq_false_iff]
  intro e
  have := (List.isPrefixOf_iff_prefix.1 e).length_le
  omega
theorem hasPrefix0_p (a b : List UInt8) : PCalls E 141 [.str a, .str b] (· = .bool (preB a b)) := by
  refine PCalls.run E_ok (fn := Tryz.f141) Tryz.func141 (body := Tryz.f141.body.getD .skip) rfl (by decide) 2000 ?_
  conv => whnf
  refine caseB_split (fun h => ?_) (fun h => ?_)
  · simp at h
    conv => whnf
    refine AWL.run E_ok Tryz.func141 2000 ?_
    conv => whnf
    refine need_intro ⟨by simp, by simp, by simp; omega⟩ ?_
    conv => whnf
    refine AWL.run E_ok Tryz.func141 2000 ?_
    conv => whnf
    simp
    exact pre_take
  · simp at h
    conv => whnf
    refine AWL.run E_ok Tryz.func141 2000 ?_
    conv => whnf
    rw [pre_long h]
theorem hasPrefix_p (a b : List UInt8) : PCalls E 101 [.str a, .str b] (· = .bool (preB a b)) := by
  refine PCalls.run E_ok (fn := Tryz.f101) Tryz.func101 (body := Tryz.f101.body.getD .skip) rfl (by decide) 2000 ?_
  conv => whnf
  with_reducible refine callP_eq (hasPrefix0_p _ _) ?_
  conv => whnf
  refine AWL.run E_ok Tryz.func101 2000 ?_
  conv => whnf
theorem pre_star (a : List UInt8) : preB a [42] = Nm.wild a := by
  cases a with
  | nil => rfl
  | cons c a =>
    show ((42 : UInt8) == c && List.isPrefixOf [] a) = (c == 42)
    simp only [List.isPrefixOf, Bool.and_true]
    exact BEq.comm
theorem isWild_p (a : List UInt8) : PCalls E 167 [.str a] (· = .bool (Nm.wild a)) := by
  refine PCalls.run E_ok (fn := Tryz.f167) Tryz.func167 (body := Tryz.f167.body.getD .skip) rfl (by decide) 2000 ?_
  conv => whnf
  with_reducible refine callP_eq (hasPrefix_p _ _) ?_
  conv => whnf
  refine AWL.run E_ok Tryz.func167 2000 ?_
  conv => whnf
  exact congrArg _ (pre_star a)

def okc (c : UInt8) : Bool := (decide (97 ≤ (c.toNat : Int)) && decide ((c.toNat : Int) ≤ 122)) || (decide (48 ≤ (c.toNat : Int)) && decide ((c.toNat : Int) ≤ 57)) || ((c.toNat : Int) == 32)
/-- A text of a datum of the type of texts. -/
def freeB (t : List UInt8) : Bool := decide (1 ≤ (t.length : Int)) && decide ((t.length : Int) ≤ 40) && !(t.head?.any fun c => (c.toNat : Int) == 32) && !(t.getLast?.any fun c => (c.toNat : Int) == 32) && t.all okc

theorem freeB_of {t : List UInt8} (h1 : 1 ≤ t.length) (h2 : t.length ≤ 40) {c0 c1 : UInt8} (h3 : t[0]? = some c0) (h4 : t[t.length - 1]? = some c1) (h5 : ((c0.toNat : Int) == 32) = false) (h6 : ((c1.toNat : Int) == 32) = false) : freeB t = t.all okc := by
  have e1 : t.head? = some c0 := by rw [← h3]; exact List.head?_eq_getElem?
  have e2 : t.getLast? = some c1 := by rw [← h4, List.getLast?_eq_getElem?]
  have e3 : decide (1 ≤ (t.length : Int)) = true := by simp; omega
  have e4 : decide ((t.length : Int) ≤ 40) = true := by simp; omega
  simp only [freeB, e1, e2, e3, e4, Option.any_some, h5, h6, Bool.not_false, Bool.and_self, Bool.true_and]

theorem okF {a b : Bool} {x y : Int} (h1 : (!a) = true) (h2 : (!b) = true) (h3 : (x != y) = true) : (a || b || (x == y)) = false := by
  cases a <;> cases b <;> simp_all
theorem okT1 {a b d : Bool} (h : (!a) = false) : (a || b || d) = true := by cases a <;> simp_all
theorem okT2 {a b d : Bool} (h : (!b) = false) : (a || b || d) = true := by cases b <;> simp_all
theorem okT3 {a b : Bool} {x y : Int} (h : (x != y) = false) : (a || b || (x == y)) = true := by simp_all

theorem isFree_p (t : List UInt8) : PCalls E 190 [.str t] (· = .bool (freeB t)) := by
  refine PCalls.run E_ok (fn := Tryz.f190) Tryz.func190 (body := Tryz.f190.body.getD .skip) rfl (by decide) 2000 ?_
  conv => whnf
  with_reducible refine callP_eq (within_p _ _ _) ?_
  conv => whnf
  refine AWL.run E_ok Tryz.func190 2000 ?_
  conv => whnf
  refine caseB_split (fun h1 => ?_) (fun h1 => ?_)
  · conv => whnf
    refine AWL.run E_ok Tryz.func190 2000 ?_
    conv => whnf
    refine caseB_true ?_
    conv => whnf
    refine AWL.run E_ok Tryz.func190 2000 ?_
    conv => whnf
    refine caseB_true ?_
    conv => whnf
    refine AWL.run E_ok Tryz.func190 2000 ?_
    conv => whnf
    have : (decide (1 ≤ (t.length : Int)) && decide ((t.length : Int) ≤ 40)) = false := by rw [Bool.not_eq_true'] at h1; exact h1
    simp only [freeB, this, Bool.false_and]
  · have hb : 1 ≤ t.length ∧ t.length ≤ 40 := by simp at h1; omega
    obtain ⟨c0, hc0⟩ := some_of_lt (l := t) (k := 0) (by omega)
    obtain ⟨c1, hc1⟩ := some_of_lt (l := t) (k := t.length - 1) (by omega)
    have hw : (IntKind.i64.wrap (t.length - 1)) = ((t.length - 1 : Nat) : Int) := by rw [wrap64 (by omega) (by omega)]; omega
    conv => whnf
    refine AWL.run E_ok Tryz.func190 2000 ?_
    conv => whnf
    refine byteP_intro c0 (by decide) hc0 ?_
    conv => whnf
    refine AWL.run E_ok Tryz.func190 2000 ?_
    conv => whnf
    refine caseB_split (fun h2 => ?_) (fun h2 => ?_)
    · conv => whnf
      refine AWL.run E_ok Tryz.func190 2000 ?_
      conv => whnf
      refine caseB_true ?_
      conv => whnf
      refine AWL.run E_ok Tryz.func190 2000 ?_
      conv => whnf
      have e1 : t.head? = some c0 := by rw [← hc0]; exact List.head?_eq_getElem?
      simp only [freeB, e1, Option.any_some, h2, Bool.not_true, Bool.and_false, Bool.false_and]
    · conv => whnf
      refine AWL.run E_ok Tryz.func190 2000 ?_
      conv => whnf
      rw [hw]
      refine byteP_intro c1 (by omega) (by rw [Int.toNat_natCast]; exact hc1) ?_
      conv => whnf
      refine AWL.run E_ok Tryz.func190 2000 ?_
      conv => whnf
      refine caseB_split (fun h3 => ?_) (fun h3 => ?_)
      · conv => whnf
        refine AWL.run E_ok Tryz.func190 2000 ?_
        conv => whnf
        have e2 : t.getLast? = some c1 := by rw [← hc1, List.getLast?_eq_getElem?]
        simp only [freeB, e2, Option.any_some, h3, Bool.not_true, Bool.and_false, Bool.false_and]
      · rw [freeB_of hb.1 hb.2 hc0 hc1 h2 h3]
        conv => whnf
        refine AWL.run E_ok Tryz.func190 2000 ?_
        conv => whnf
        refine AWL.loop (κ := Nat) [3, 4, 2, 24, 25, 26, 27, 28, 29, 30, 31, 32, 33, 34, 35, 36, 37, 38, 39, 40, 41, 42] (fun k => [(24, .d (.int .i64 k))]) (fun _ => []) (fun k => k ≤ t.length ∧ ∀ j c, j < k → t[j]? = some c → okc c = true) (fun k => t.length - k) 0 ⟨Nat.zero_le _, fun j c h => by omega⟩ ?_ ?_
        · conv => whnf
          repeat (first | exact trivial | (refine And.intro (by first | with_reducible rfl | exact congrArg (DV.int .i64) (by omega) | exact congrArg (DV.int .i64) (wrap64 (by omega) (by omega)) | exact congrArg (DV.int .i64) ((wrap64 (by omega) (by omega)).trans (by omega))) ?_; conv => whnf))
        · intro k hk IH
          have no : ∀ c, t[k]? = some c → okc c = false → t.all okc = false := fun c hc h => by
            rw [Bool.eq_false_iff]
            intro hall
            have := List.all_eq_true.1 hall c (List.mem_of_getElem? hc)
            rw [h] at this
            cases this
          refine AWL.head E_ok Tryz.func190 2000 ?_
          conv => whnf
          refine caseB_split (fun h4 => ?_) (fun h4 => ?_)
          · simp at h4
            obtain ⟨c, hc⟩ := some_of_lt h4
            have next : okc c = true → ∀ j c', j < k + 1 → t[j]? = some c' → okc c' = true := fun ho j c' hj hc' => by
              rcases Nat.lt_or_ge j k with h | h
              · exact hk.2 j c' h hc'
              · obtain rfl : j = k := by omega
                rw [hc] at hc'; cases hc'; exact ho
            conv => whnf
            refine AWL.run E_ok Tryz.func190 2000 ?_
            conv => whnf
            refine byteP_intro c (by omega) (by rw [Int.toNat_natCast]; exact hc) ?_
            conv => whnf
            refine AWL.run E_ok Tryz.func190 2000 ?_
            conv => whnf
            with_reducible refine callP_eq (withinb_p _ _ _) ?_
            conv => whnf
            refine AWL.run E_ok Tryz.func190 2000 ?_
            conv => whnf
            refine caseB_split (fun h5 => ?_) (fun h5 => ?_)
            · conv => whnf
              refine AWL.run E_ok Tryz.func190 2000 ?_
              conv => whnf
              with_reducible refine callP_eq (withinb_p _ _ _) ?_
              conv => whnf
              refine AWL.run E_ok Tryz.func190 2000 ?_
              conv => whnf
              refine caseB_split (fun h6 => ?_) (fun h6 => ?_)
              · conv => whnf
                refine AWL.run E_ok Tryz.func190 2000 ?_
                conv => whnf
                refine caseB_split (fun h7 => ?_) (fun h7 => ?_)
                · conv => whnf
                  refine AWL.run E_ok Tryz.func190 2000 ?_
                  conv => whnf
                  rw [no c hc (okF h5 h6 h7)]
                · conv => whnf
                  refine AWL.run E_ok Tryz.func190 2000 ?_
                  conv => whnf
                  refine AWL.back (IH (k + 1) ⟨by omega, next (okT3 h7)⟩ (by omega)) ?_
                  conv => whnf
                  repeat (first | exact trivial | (refine And.intro (by first | with_reducible rfl | exact congrArg (DV.int .i64) (by omega) | exact congrArg (DV.int .i64) (wrap64 (by omega) (by omega)) | exact congrArg (DV.int .i64) ((wrap64 (by omega) (by omega)).trans (by omega))) ?_; conv => whnf))
              · conv => whnf
                refine AWL.run E_ok Tryz.func190 2000 ?_
                conv => whnf
                refine caseB_false ?_
                conv => whnf
                refine AWL.run E_ok Tryz.func190 2000 ?_
                conv => whnf
                refine AWL.back (IH (k + 1) ⟨by omega, next (okT2 h6)⟩ (by omega)) ?_
                conv => whnf
                repeat (first | exact trivial | (refine And.intro (by first | with_reducible rfl | exact congrArg (DV.int .i64) (by omega) | exact congrArg (DV.int .i64) (wrap64 (by omega) (by omega)) | exact congrArg (DV.int .i64) ((wrap64 (by omega) (by omega)).trans (by omega))) ?_; conv => whnf))
            · conv => whnf
              refine AWL.run E_ok Tryz.func190 2000 ?_
              conv => whnf
              refine caseB_false ?_
              conv => whnf
              refine AWL.run E_ok Tryz.func190 2000 ?_
              conv => whnf
              refine caseB_false ?_
              conv => whnf
              refine AWL.run E_ok Tryz.func190 2000 ?_
              conv => whnf
              refine AWL.back (IH (k + 1) ⟨by omega, next (okT1 h5)⟩ (by omega)) ?_
              conv => whnf
              repeat (first | exact trivial | (refine And.intro (by first | with_reducible rfl | exact congrArg (DV.int .i64) (by omega) | exact congrArg (DV.int .i64) (wrap64 (by omega) (by omega)) | exact congrArg (DV.int .i64) ((wrap64 (by omega) (by omega)).trans (by omega))) ?_; conv => whnf))
          · simp at h4
            conv => whnf
            refine AWL.run E_ok Tryz.func190 2000 ?_
            conv => whnf
            have : t.all okc = true := by
              rw [List.all_eq_true]
              intro c hc
              obtain ⟨j, hj⟩ := List.getElem?_of_mem hc
              exact hk.2 j c (by have := lt_of_getElem? hj; omega) hj
            rw [this]

end Go.Proofs.YtebielkakdhelaaGreatDoor.P
end

/- Contracts by the engine: record.Valid. Conditions: texts and lists of lengths that Go allows. -/
section
namespace Go.Proofs.YtebielkakdhelaaGreatDoor.P
open Go Go.Eng
set_option maxRecDepth 100000

structure Rule where
  text : Int
  leastN : Int
  mostN : Int
  leastM : Int
  mostM : Int
  even : Bool
  single : Bool
  wild : Bool
@[reducible] def Rule.enc (r : Rule) : DV := .agg [.int .i64 r.text, .int .i64 r.leastN, .int .i64 r.mostN, .int .i64 r.leastM, .int .i64 r.mostM, .bool r.even, .bool r.single, .bool r.wild]
/-- The rules of the types of data. -/
def ruleOf : Nat → Rule
  | 1 => ⟨0, 1, 1000000, 0, 0, false, false, true⟩
  | 2 => ⟨1, 0, 0, 0, 0, false, false, false⟩
  | 3 => ⟨1, 0, 0, 0, 0, false, true, false⟩
  | 4 => ⟨0, 0, 65535, 0, 100000, false, true, false⟩
  | 5 => ⟨3, 0, 0, 0, 0, false, false, true⟩
  | 6 => ⟨0, 1, 1000000, 1, 3, false, false, false⟩
  | 7 => ⟨0, 1, 1000000, 1, 3, false, false, false⟩
  | 8 => ⟨2, 2, 510, 0, 0, true, false, true⟩
  | _ => ⟨0, 0, 0, 0, 0, false, false, false⟩

def textOK (r : Rule) (t : Text) : Bool := if r.text = 1 then Nm.valid t && !Nm.wild t else if r.text = 2 then Nm.valid t else if r.text = 3 then freeB t else t == []
def datumOK (r : Rule) (d : Datum) : Bool :=
  (decide (r.leastN ≤ d.n) && decide (d.n ≤ r.mostN)) && (decide (r.leastM ≤ d.m) && decide (d.m ≤ r.mostM)) && !(r.even && (d.n.tmod 2 != 0)) && textOK r d.text

theorem datumOK_p (r : Rule) (d : Datum) (hd : d.text.length ≤ maxLen) : PCalls E 168 [r.enc, d.enc] (· = .bool (datumOK r d)) := by
  obtain ⟨rt, r1, r2, r3, r4, re, rs, rw⟩ := r
  refine PCalls.run E_ok (fn := Tryz.f168) Tryz.func168 (body := Tryz.f168.body.getD .skip) rfl (by decide) 2000 ?_
  conv => whnf
  repeat' (first | with_reducible refine callP_eq (within_p _ _ _) ?_ | with_reducible refine callP1_eq (within_p _ _ _) ?_ | with_reducible refine callP_eq (nvalid_p _ hd) ?_ | with_reducible refine callP1_eq (nvalid_p _ hd) ?_ | with_reducible refine callP_eq (isWild_p _) ?_ | with_reducible refine callP1_eq (isWild_p _) ?_ | with_reducible refine callP_eq (isFree_p _) ?_ | with_reducible refine callP1_eq (isFree_p _) ?_ | with_reducible refine caseB_true ?_ | with_reducible refine caseB_false ?_ | with_reducible refine caseB_yes (by decide) ?_ | with_reducible refine caseB_no (by decide) ?_ | with_reducible refine caseB_yes (by assumption) ?_ | with_reducible refine caseB_no (by assumption) ?_ | with_reducible refine caseB_split (fun _ => ?_) (fun _ => ?_) | ((conv => whnf); (with_reducible refine AWL.run E_ok Tryz.func168 2000 ?_); (conv => whnf); fail_if_success (with_reducible refine AWL.of ?_)) | ((conv => whnf); (with_reducible refine DWL.run E_ok 2000 ?_); (conv => whnf); fail_if_success (with_reducible refine DWL.is ?_)) | ((conv => whnf); (with_reducible refine SWL.run E_ok 2000 ?_); (conv => whnf); fail_if_success (with_reducible refine SWL.is ?_)))
  all_goals simp_all [datumOK, textOK]
  all_goals (intros; exfalso; omega)

theorem rules_at {k : Nat} (h1 : 1 ≤ k) (h8 : k ≤ 8) : ∃ cs, glob_nameplan_record_rules = .agg cs ∧ (cs.drop (k * 8)).take 8 = (ruleOf k).enc.cells := by
  refine ⟨_, rfl, ?_⟩
  match k, h1, h8 with
  | 1, _, _ => rfl
  | 2, _, _ => rfl
  | 3, _, _ => rfl
  | 4, _, _ => rfl
  | 5, _, _ => rfl
  | 6, _, _ => rfl
  | 7, _, _ => rfl
  | 8, _, _ => rfl

/-- All texts and lists of a set are such as Go allows. -/
structure RSet.Fits (s : RSet) : Prop where
  name : s.name.length ≤ maxLen
  data : s.data.length ≤ 2147483648
  texts : ∀ d ∈ s.data, d.text.length ≤ maxLen

/-- The data of a set, one behind the other. -/
def dataB (r : Rule) : Option Datum → List Datum → Bool
  | _, [] => true
  | p, d :: l => datumOK r d && (match p with | none => true | some e => decide (cmpD e d < 0)) && dataB r (some d) l
def prevD (l : List Datum) (k : Nat) : Option Datum := if k = 0 then none else l[k - 1]?
theorem dataB_next {r : Rule} {l : List Datum} {k : Nat} {d : Datum} (hd : l[k]? = some d) : dataB r (prevD l k) (l.drop k) = (datumOK r d && (match prevD l k with | none => true | some e => decide (cmpD e d < 0)) && dataB r (prevD l (k + 1)) (l.drop (k + 1))) := by
  have hk := lt_of_getElem? hd
  rw [List.drop_eq_getElem_cons hk]
  have e1 : l[k] = d := by simpa [hk] using hd
  have e2 : prevD l (k + 1) = some d := by simp [prevD, hd]
  rw [e1, e2]
  rfl
def setOK (s : RSet) : Bool := Nm.valid s.name && (decide (1 ≤ s.type) && decide (s.type ≤ 8)) && (decide (0 ≤ s.life) && decide (s.life ≤ 100000)) && (decide (1 ≤ (s.data.length : Int)) && decide ((s.data.length : Int) ≤ 8)) &&
  !((ruleOf s.type.toNat).single && ((s.data.length : Int) != 1)) && !(Nm.wild s.name && !(ruleOf s.type.toNat).wild) && dataB (ruleOf s.type.toNat) none s.data

set_option linter.unusedSimpArgs false in
theorem setOK_p (s : RSet) (hf : s.Fits) : PCalls E 119 [s.enc] (· = .bool (setOK s)) := by
  refine PCalls.run E_ok (fn := Tryz.f119) Tryz.func119 (body := Tryz.f119.body.getD .skip) rfl (by decide) 2000 ?_
  conv => whnf
  repeat' (first | with_reducible refine callP_eq (nvalid_p _ hf.name) ?_ | with_reducible refine callP1_eq (nvalid_p _ hf.name) ?_ | with_reducible refine callP_eq (within_p _ _ _) ?_ | with_reducible refine callP1_eq (within_p _ _ _) ?_ | with_reducible refine caseB_true ?_ | with_reducible refine caseB_false ?_ | with_reducible refine caseB_yes (by decide) ?_ | with_reducible refine caseB_no (by decide) ?_ | with_reducible refine caseB_yes (by assumption) ?_ | with_reducible refine caseB_no (by assumption) ?_ | with_reducible refine caseB_split (fun _ => ?_) (fun _ => ?_) | ((conv => whnf); (with_reducible refine AWL.run E_ok Tryz.func119 2000 ?_); (conv => whnf); fail_if_success (with_reducible refine AWL.of ?_)) | ((conv => whnf); (with_reducible refine DWL.run E_ok 2000 ?_); (conv => whnf); fail_if_success (with_reducible refine DWL.is ?_)) | ((conv => whnf); (with_reducible refine SWL.run E_ok 2000 ?_); (conv => whnf); fail_if_success (with_reducible refine SWL.is ?_)))
  all_goals try (simp only [Bool.not_eq_true', Bool.not_eq_false', List.length_map] at *; simp only [setOK, *, Bool.false_and, Bool.and_false]; done)
  rename_i h1 h2 h3 h4
  rw [List.length_map] at h4
  rw [Bool.not_eq_false'] at h1 h2 h3 h4
  have ht : 1 ≤ s.type ∧ s.type ≤ 8 := by simpa using h2
  have hl : 1 ≤ s.data.length ∧ s.data.length ≤ 8 := by simp at h4; omega
  obtain ⟨t, ht'⟩ := Int.eq_ofNat_of_zero_le (a := s.type) (by omega)
  obtain ⟨cs, hcs, hrule⟩ := rules_at (k := t) (by omega) (by omega)
  cases hcs
  refine cellP_intro (ruleOf t).enc (by omega) (by omega) (by decide) (by rw [ht']; exact hrule) rfl ?_
  have hset : setOK s = (!((ruleOf t).single && ((s.data.length : Int) != 1)) && !(Nm.wild s.name && !(ruleOf t).wild) && dataB (ruleOf t) none s.data) := by
    simp only [setOK, h1, h2, h3, h4, Bool.true_and]
    rw [ht', Int.toNat_natCast]
  rw [hset]
  generalize ruleOf t = r
  clear hset hrule
  conv => whnf
  refine AWL.run E_ok Tryz.func119 2000 ?_
  conv => whnf
  repeat' (first | with_reducible refine callP_eq (isWild_p _) ?_ | with_reducible refine callP1_eq (isWild_p _) ?_ | with_reducible refine caseB_true ?_ | with_reducible refine caseB_false ?_ | with_reducible refine caseB_yes (by decide) ?_ | with_reducible refine caseB_no (by decide) ?_ | with_reducible refine caseB_yes (by assumption) ?_ | with_reducible refine caseB_no (by assumption) ?_ | with_reducible refine caseB_split (fun _ => ?_) (fun _ => ?_) | ((conv => whnf); (with_reducible refine AWL.run E_ok Tryz.func119 2000 ?_); (conv => whnf); fail_if_success (with_reducible refine AWL.of ?_)) | ((conv => whnf); (with_reducible refine DWL.run E_ok 2000 ?_); (conv => whnf); fail_if_success (with_reducible refine DWL.is ?_)) | ((conv => whnf); (with_reducible refine SWL.run E_ok 2000 ?_); (conv => whnf); fail_if_success (with_reducible refine SWL.is ?_)))
  all_goals try (simp only [List.length_map, Bool.not_eq_true', Bool.not_eq_false'] at *; simp only [*, Bool.true_and, Bool.not_true, Bool.not_false, Bool.and_false, Bool.false_and, Bool.and_self]; done)
  all_goals
    have hfin : (!(r.single && ((s.data.length : Int) != 1)) && !(Nm.wild s.name && !r.wild) && dataB r none s.data) = dataB r none s.data := by
      try simp only [List.length_map] at *
      simp only [*, Bool.not_true, Bool.not_false, Bool.and_false, Bool.false_and, Bool.and_self, Bool.true_and]
    rw [hfin]
    clear hfin
    conv => whnf
    refine AWL.run E_ok Tryz.func119 2000 ?_
    conv => whnf
    refine AWL.loop (κ := Nat) [2, 4, 5, 52, 53, 54, 55, 56, 57, 58, 59, 60, 61, 62, 63, 64, 65, 66, 67, 68, 69, 70, 71, 72, 73, 74, 75, 76] (fun k => [(52, .d (.int .i64 k))]) (fun _ => []) (fun k => k ≤ s.data.length ∧ dataB r none s.data = dataB r (prevD s.data k) (s.data.drop k)) (fun k => s.data.length - k) 0 ⟨Nat.zero_le _, rfl⟩ ?_ ?_
    · conv => whnf
      repeat (first | exact trivial | (refine And.intro (by first | with_reducible rfl | exact congrArg (DV.int .i64) (by omega) | exact congrArg (DV.int .i64) (wrap64 (by omega) (by omega)) | exact congrArg (DV.int .i64) ((wrap64 (by omega) (by omega)).trans (by omega))) ?_; conv => whnf))
    · intro k hk IH
      refine AWL.head E_ok Tryz.func119 2000 ?_
      conv => whnf
      refine caseB_split (fun h5 => ?_) (fun h5 => ?_)
      · have hlt : k < s.data.length := by simpa using h5
        obtain ⟨d, hd⟩ := some_of_lt hlt
        have hnext := dataB_next (r := r) hd
        rw [← hk.2] at hnext
        conv => whnf
        refine AWL.run E_ok Tryz.func119 2000 ?_
        conv => whnf
        refine elemP_intro d.enc (by omega) (elem_map hd) rfl ?_
        conv => whnf
        refine AWL.run E_ok Tryz.func119 2000 ?_
        conv => whnf
        refine AWL.draw E_ok E_mixed 19 2000 (by kernel_rfl) ?_
        conv => whnf
        with_reducible refine callP1_eq (datumOK_p r d (hf.texts d (List.mem_of_getElem? hd))) ?_
        conv => whnf
        refine DWL.run E_ok 2000 ?_
        conv => whnf
        refine caseB_split (fun h6 => ?_) (fun h6 => ?_)
        · conv => whnf
          refine DWL.run E_ok 2000 ?_
          conv => whnf
          conv => whnf
          refine SWL.run E_ok 2000 ?_
          conv => whnf
          conv => whnf
          refine AWL.run E_ok Tryz.func119 2000 ?_
          conv => whnf
          refine caseB_true ?_
          conv => whnf
          refine AWL.run E_ok Tryz.func119 2000 ?_
          conv => whnf
          rw [Bool.not_eq_true'] at h6
          rw [hnext, h6, Bool.false_and, Bool.false_and]
        · rw [Bool.not_eq_false'] at h6
          conv => whnf
          refine DWL.run E_ok 2000 ?_
          conv => whnf
          refine caseB_split (fun h7 => ?_) (fun h7 => ?_)
          · have hk0 : 0 < k := by simpa using h7
            obtain ⟨e, he⟩ := some_of_lt (l := s.data) (k := k - 1) (by omega)
            have hw : IntKind.i64.wrap ((k : Int) - 1) = ((k - 1 : Nat) : Int) := by rw [wrap64 (by omega) (by omega)]; omega
            have hpr : prevD s.data k = some e := by simp [prevD, he]; omega
            conv => whnf
            refine DWL.run E_ok 2000 ?_
            conv => whnf
            rw [hw]
            refine elemP_intro e.enc (by omega) (elem_map he) rfl ?_
            conv => whnf
            refine DWL.run E_ok 2000 ?_
            conv => whnf
            with_reducible refine callP1_eq (cmpD_p _ _) ?_
            conv => whnf
            refine DWL.run E_ok 2000 ?_
            conv => whnf
            conv => whnf
            refine SWL.run E_ok 2000 ?_
            conv => whnf
            conv => whnf
            refine AWL.run E_ok Tryz.func119 2000 ?_
            conv => whnf
            refine caseB_split (fun h8 => ?_) (fun h8 => ?_)
            · conv => whnf
              refine AWL.run E_ok Tryz.func119 2000 ?_
              conv => whnf
              have : decide (cmpD e d < 0) = false := by simp at h8 ⊢; omega
              rw [hnext, hpr]; dsimp only; rw [this, Bool.and_false, Bool.false_and]
            · conv => whnf
              refine AWL.run E_ok Tryz.func119 2000 ?_
              conv => whnf
              have : decide (cmpD e d < 0) = true := by simp at h8 ⊢; omega
              refine AWL.back (IH (k + 1) ⟨by omega, by rw [hnext, hpr]; dsimp only; rw [this, h6]; rfl⟩ (by omega)) ?_
              conv => whnf
              repeat (first | exact trivial | (refine And.intro (by first | with_reducible rfl | exact congrArg (DV.int .i64) (by omega) | exact congrArg (DV.int .i64) (wrap64 (by omega) (by omega)) | exact congrArg (DV.int .i64) ((wrap64 (by omega) (by omega)).trans (by omega))) ?_; conv => whnf))
          · have hk0 : k = 0 := by simp at h7; omega
            have hpr : prevD s.data k = none := by simp [prevD, hk0]
            conv => whnf
            refine DWL.run E_ok 2000 ?_
            conv => whnf
            conv => whnf
            refine SWL.run E_ok 2000 ?_
            conv => whnf
            conv => whnf
            refine AWL.run E_ok Tryz.func119 2000 ?_
            conv => whnf
            refine caseB_false ?_
            conv => whnf
            refine AWL.run E_ok Tryz.func119 2000 ?_
            conv => whnf
            refine AWL.back (IH (k + 1) ⟨by omega, by rw [hnext, hpr, h6]; rfl⟩ (by omega)) ?_
            conv => whnf
            repeat (first | exact trivial | (refine And.intro (by first | with_reducible rfl | exact congrArg (DV.int .i64) (by omega) | exact congrArg (DV.int .i64) (wrap64 (by omega) (by omega)) | exact congrArg (DV.int .i64) ((wrap64 (by omega) (by omega)).trans (by omega))) ?_; conv => whnf))
      · have hge : s.data.length ≤ k := by simpa using h5
        conv => whnf
        refine AWL.run E_ok Tryz.func119 2000 ?_
        conv => whnf
        rw [hk.2, List.drop_of_length_le hge]
        rfl

end Go.Proofs.YtebielkakdhelaaGreatDoor.P
end

/- Contracts by the engine: a set's bytes. Conditions: lengths that Go allows. -/
section
namespace Go.Proofs.YtebielkakdhelaaGreatDoor.P
open Go Go.Eng
set_option maxRecDepth 100000

/-- A number's bytes, the most significant one first. -/
def numB (n : Int) : List DV := [56, 48, 40, 32, 24, 16, 8, 0].map fun k => .int .u8 (IntKind.u8.wrap (shI .shr .u64 (IntKind.u64.wrap n) k))
/-- A text's bytes behind its length. -/
def textB (t : Text) : List DV := .int .u8 (IntKind.u8.wrap t.length) :: t.map byteD
theorem numB_len (n : Int) : (numB n).length = 8 := rfl
theorem textB_len (t : Text) : (textB t).length = t.length + 1 := by simp [textB]
theorem numB_next (n : Int) {k : Nat} (h : k < 8) : (numB n).take k ++ [.int .u8 (IntKind.u8.wrap (shI .shr .u64 (IntKind.u64.wrap n) (56 - 8 * (k : Int)).toNat))] = (numB n).take (k + 1) := by
  match k, h with
  | 0, _ => rfl
  | 1, _ => rfl
  | 2, _ => rfl
  | 3, _ => rfl
  | 4, _ => rfl
  | 5, _ => rfl
  | 6, _ => rfl
  | 7, _ => rfl

theorem appendText_a (l : List DV) (t : Text) (hl : l.length + t.length < 2147483648) : ACalls E 142 [.arr 0 (5, 1) l] [.own 0 0, .d (.str t)] (fun a b => a = .own 0 2 ∧ b = [.arr 2 (5, 1) (l ++ textB t)]) := by
  refine ACalls.run E_ok (fn := Tryz.f142) Tryz.func142 (body := Tryz.f142.body.getD .skip) rfl (by decide) 2000 rfl ?_
  conv => whnf
  refine need_intro ⟨by simp; omega, by simp [DV.cells]⟩ ?_
  conv => whnf
  refine AWL.run E_ok Tryz.func142 2000 ?_
  conv => whnf
  refine need_intro ⟨by simp; omega, by simp [byteD, DV.cells]⟩ ?_
  conv => whnf
  refine AWL.run E_ok Tryz.func142 2000 ?_
  conv => whnf
  simp [textB]
theorem appendText_n (t : Text) (hl : t.length < 2147483648) : ACalls E 142 [] [.d .nilsl, .d (.str t)] (fun a b => a = .own 0 2 ∧ b = [.arr 2 (5, 1) (textB t)]) := by
  refine ACalls.run E_ok (fn := Tryz.f142) Tryz.func142 (body := Tryz.f142.body.getD .skip) rfl (by decide) 2000 rfl ?_
  conv => whnf
  refine need_intro ⟨by simp, by simp [DV.cells]⟩ ?_
  conv => whnf
  refine AWL.run E_ok Tryz.func142 2000 ?_
  conv => whnf
  refine need_intro ⟨by simp; omega, by simp [byteD, DV.cells]⟩ ?_
  conv => whnf
  refine AWL.run E_ok Tryz.func142 2000 ?_
  conv => whnf
  simp [textB]

theorem appendNumber_a (l : List DV) (n : Int) (hl : l.length < 2000000000) : ACalls E 143 [.arr 0 (5, 1) l] [.own 0 0, .d (.int .i64 n)] (fun a b => a = .own 0 1 ∧ b = [.arr 1 (5, 1) (l ++ numB n)]) := by
  refine ACalls.run E_ok (fn := Tryz.f143) Tryz.func143 (body := Tryz.f143.body.getD .skip) rfl (by decide) 2000 rfl ?_
  conv => whnf
  refine AWL.loop (κ := Nat) [0, 5, 6, 7, 8, 9, 10, 11, 12, 13, 14, 15, 16, 17] (fun k => [(5, .d (.int .i64 (56 - 8 * (k : Int)))), (0, .own 0 1)]) (fun k => [(0, .arr 1 (5, 1) (l ++ (numB n).take k))]) (fun k => k ≤ 8) (fun k => 8 - k) 0 (Nat.zero_le _) ?_ ?_
  · conv => whnf
    repeat (first | exact trivial | (refine And.intro (by first | with_reducible rfl | exact congrArg (DV.int .i64) (by omega) | exact congrArg (DV.int .i64) (wrap64 (by omega) (by omega)) | exact congrArg (DV.int .i64) ((wrap64 (by omega) (by omega)).trans (by omega))) ?_; conv => whnf))
    refine And.intro (by simp) ?_
    conv => whnf
    repeat (first | exact trivial | (refine And.intro (by first | with_reducible rfl | exact congrArg (DV.int .i64) (by omega) | exact congrArg (DV.int .i64) (wrap64 (by omega) (by omega)) | exact congrArg (DV.int .i64) ((wrap64 (by omega) (by omega)).trans (by omega))) ?_; conv => whnf))
  · intro k hk IH
    refine AWL.head E_ok Tryz.func143 2000 ?_
    conv => whnf
    refine caseB_split (fun h => ?_) (fun h => ?_)
    · have hlt : k < 8 := by simp at h; omega
      conv => whnf
      refine AWL.run E_ok Tryz.func143 2000 ?_
      conv => whnf
      refine need_intro (by omega) ?_
      conv => whnf
      refine AWL.run E_ok Tryz.func143 2000 ?_
      conv => whnf
      refine need_intro ⟨by simp [numB_len]; omega, by simp [DV.cells]⟩ ?_
      conv => whnf
      refine AWL.run E_ok Tryz.func143 2000 ?_
      conv => whnf
      refine AWL.back (IH (k + 1) (by omega) (by omega)) ?_
      conv => whnf
      repeat (first | exact trivial | (refine And.intro (by first | with_reducible rfl | exact congrArg (DV.int .i64) (by omega) | exact congrArg (DV.int .i64) (wrap64 (by omega) (by omega)) | exact congrArg (DV.int .i64) ((wrap64 (by omega) (by omega)).trans (by omega))) ?_; conv => whnf))
      refine And.intro (by rw [List.append_assoc, numB_next n hlt]) ?_
      conv => whnf
      repeat (first | exact trivial | (refine And.intro (by first | with_reducible rfl | exact congrArg (DV.int .i64) (by omega) | exact congrArg (DV.int .i64) (wrap64 (by omega) (by omega)) | exact congrArg (DV.int .i64) ((wrap64 (by omega) (by omega)).trans (by omega))) ?_; conv => whnf))
    · have hge : k = 8 := by simp at h; omega
      subst hge
      conv => whnf
      refine AWL.run E_ok Tryz.func143 2000 ?_
      conv => whnf
      simp [show List.take 8 (numB n) = numB n from rfl]

def datumB (d : Datum) : List DV := textB d.text ++ numB d.n ++ numB d.m
def headB (s : RSet) : List DV := textB s.name ++ numB s.type ++ numB s.life ++ [.int .u8 (IntKind.u8.wrap s.data.length)]
/-- The bytes of a valid set. -/
def setB (s : RSet) : List DV := headB s ++ s.data.flatMap datumB

theorem valid_len {l : Text} (h : Nm.valid l = true) : l.length ≤ 60 := by
  simp only [Nm.valid, Bool.or_eq_true, decide_eq_true_eq, Bool.and_eq_true] at h
  rcases h with rfl | h
  · simp
  · exact h.1
theorem textOK_len {r : Rule} {t : Text} (h : textOK r t = true) : t.length ≤ 60 := by
  unfold textOK at h
  split at h
  · simp at h; exact valid_len h.1
  · split at h
    · exact valid_len h
    · split at h
      · simp [freeB] at h; omega
      · simp at h; simp [h]
theorem dataB_mem {r : Rule} : ∀ {p : Option Datum} {l : List Datum}, dataB r p l = true → ∀ d ∈ l, datumOK r d = true
  | _, [], _, d, hd => by simp at hd
  | p, e :: l, h, d, hd => by
    simp only [dataB, Bool.and_eq_true] at h
    rcases List.mem_cons.1 hd with rfl | hd
    · exact h.1.1
    · exact dataB_mem h.2 d hd
theorem setOK_lens {s : RSet} (h : setOK s = true) : s.name.length ≤ 60 ∧ s.data.length ≤ 8 ∧ 1 ≤ s.data.length ∧ ∀ d ∈ s.data, d.text.length ≤ 60 := by
  simp only [setOK, Bool.and_eq_true, decide_eq_true_eq] at h
  obtain ⟨⟨⟨⟨⟨⟨h1, h2⟩, h3⟩, h4⟩, h5⟩, h6⟩, h7⟩ := h
  refine ⟨valid_len h1, by omega, by omega, fun d hd => ?_⟩
  have := dataB_mem h7 d hd
  simp only [datumOK, Bool.and_eq_true] at this
  exact textOK_len this.2
theorem datumB_len {d : Datum} (h : d.text.length ≤ 60) : (datumB d).length ≤ 77 := by simp [datumB, textB_len, numB_len]; omega
theorem dataB_len {l : List Datum} (h : ∀ d ∈ l, d.text.length ≤ 60) : (l.flatMap datumB).length ≤ 77 * l.length := by
  induction l with
  | nil => simp
  | cons d l ih =>
    have h1 := datumB_len (h d (List.mem_cons_self ..))
    have h2 := ih (fun e he => h e (List.mem_cons_of_mem _ he))
    simp only [List.flatMap_cons, List.length_append, List.length_cons]
    omega
theorem headB_len {s : RSet} (h : s.name.length ≤ 60) : (headB s).length ≤ 78 := by simp [headB, textB_len, numB_len]; omega
theorem take_next {α : Type} {l : List α} {k : Nat} {x : α} (h : l[k]? = some x) : l.take (k + 1) = l.take k ++ [x] := by
  rw [List.take_add_one, h]; rfl

theorem bytesNo_p (s : RSet) (hf : s.Fits) (hs : setOK s = false) : PCalls E 102 [s.enc] (· = .tup [.nilsl, .int .i64 1]) := by
  refine PCalls.run E_ok (fn := Tryz.f102) Tryz.func102 (body := Tryz.f102.body.getD .skip) rfl (by decide) 2000 ?_
  conv => whnf
  with_reducible refine callP_eq (setOK_p s hf) ?_
  conv => whnf
  refine AWL.run E_ok Tryz.func102 2000 ?_
  conv => whnf
  rw [hs]
  refine caseB_true ?_
  conv => whnf
  refine AWL.run E_ok Tryz.func102 2000 ?_
  conv => whnf
theorem bytes_p (s : RSet) (hf : s.Fits) (hs : setOK s = true) : PCalls E 102 [s.enc] (· = .tup [.sl (setB s), .int .i64 0]) := by
  obtain ⟨hn, hd, -, ht⟩ := setOK_lens hs
  have hh := headB_len hn
  have hlen : ∀ k, (headB s ++ (s.data.take k).flatMap datumB).length ≤ 700 := fun k => by
    have h1 := dataB_len (l := s.data.take k) (fun d hd => ht d (List.mem_of_mem_take hd))
    have h2 : (s.data.take k).length ≤ 8 := by simp; omega
    simp only [List.length_append]
    omega
  refine PCalls.run E_ok (fn := Tryz.f102) Tryz.func102 (body := Tryz.f102.body.getD .skip) rfl (by decide) 2000 ?_
  conv => whnf
  with_reducible refine callP_eq (setOK_p s hf) ?_
  conv => whnf
  refine AWL.run E_ok Tryz.func102 2000 ?_
  conv => whnf
  rw [hs]
  refine caseB_false ?_
  conv => whnf
  refine AWL.run E_ok Tryz.func102 2000 ?_
  conv => whnf
  refine callP_own (appendText_n _ (by omega)) rfl ?_
  conv => whnf
  refine AWL.run E_ok Tryz.func102 2000 ?_
  conv => whnf
  with_reducible refine callS_eq (appendNumber_a _ _ (by simp [textB_len]; omega)) ?_
  conv => whnf
  refine AWL.run E_ok Tryz.func102 2000 ?_
  conv => whnf
  with_reducible refine callS_eq (appendNumber_a _ _ (by simp [textB_len, numB_len]; omega)) ?_
  conv => whnf
  refine AWL.run E_ok Tryz.func102 2000 ?_
  conv => whnf
  refine need_intro ⟨by simp [textB_len, numB_len]; omega, by simp [DV.cells]⟩ ?_
  conv => whnf
  refine AWL.run E_ok Tryz.func102 2000 ?_
  conv => whnf
  refine AWL.loop (κ := Nat) [4, 6, 32, 33, 34, 35, 36, 37, 38, 39, 40, 41, 42, 43, 44, 45, 46, 47, 48] (fun k => [(32, .d (.int .i64 k)), (4, .own 1 1)]) (fun k => [(1, .arr 1 (5, 1) (headB s ++ (s.data.take k).flatMap datumB))]) (fun k => k ≤ s.data.length) (fun k => s.data.length - k) 0 (Nat.zero_le _) ?_ ?_
  · conv => whnf
    repeat (first | exact trivial | (refine And.intro (by first | with_reducible rfl | exact congrArg (DV.int .i64) (by omega) | exact congrArg (DV.int .i64) (wrap64 (by omega) (by omega)) | exact congrArg (DV.int .i64) ((wrap64 (by omega) (by omega)).trans (by omega))) ?_; conv => whnf))
    refine And.intro (by simp [headB, List.length_map]) ?_
    conv => whnf
    repeat (first | exact trivial | (refine And.intro (by first | with_reducible rfl | exact congrArg (DV.int .i64) (by omega) | exact congrArg (DV.int .i64) (wrap64 (by omega) (by omega)) | exact congrArg (DV.int .i64) ((wrap64 (by omega) (by omega)).trans (by omega))) ?_; conv => whnf))
  · intro k hk IH
    have hlk := hlen k
    refine AWL.head E_ok Tryz.func102 2000 ?_
    conv => whnf
    refine caseB_split (fun h => ?_) (fun h => ?_)
    · have hlt : k < s.data.length := by simpa using h
      obtain ⟨d, hd⟩ := some_of_lt hlt
      have htd := ht d (List.mem_of_getElem? hd)
      conv => whnf
      refine AWL.run E_ok Tryz.func102 2000 ?_
      conv => whnf
      refine elemP_intro d.enc (by omega) (elem_map hd) rfl ?_
      conv => whnf
      refine AWL.run E_ok Tryz.func102 2000 ?_
      conv => whnf
      with_reducible refine callS_eq (appendText_a _ _ (by omega)) ?_
      conv => whnf
      refine AWL.run E_ok Tryz.func102 2000 ?_
      conv => whnf
      with_reducible refine callS_eq (appendNumber_a _ _ (by rw [List.length_append, textB_len]; omega)) ?_
      conv => whnf
      refine AWL.run E_ok Tryz.func102 2000 ?_
      conv => whnf
      with_reducible refine callS_eq (appendNumber_a _ _ (by rw [List.length_append, List.length_append, textB_len, numB_len]; omega)) ?_
      conv => whnf
      refine AWL.run E_ok Tryz.func102 2000 ?_
      conv => whnf
      refine AWL.back (IH (k + 1) (by omega) (by omega)) ?_
      conv => whnf
      repeat (first | exact trivial | (refine And.intro (by first | with_reducible rfl | exact congrArg (DV.int .i64) (by omega) | exact congrArg (DV.int .i64) (wrap64 (by omega) (by omega)) | exact congrArg (DV.int .i64) ((wrap64 (by omega) (by omega)).trans (by omega))) ?_; conv => whnf))
      refine And.intro (by simp [take_next hd, datumB]) ?_
      conv => whnf
      repeat (first | exact trivial | (refine And.intro (by first | with_reducible rfl | exact congrArg (DV.int .i64) (by omega) | exact congrArg (DV.int .i64) (wrap64 (by omega) (by omega)) | exact congrArg (DV.int .i64) ((wrap64 (by omega) (by omega)).trans (by omega))) ?_; conv => whnf))
    · have hge : k = s.data.length := by simp at h; omega
      subst hge
      conv => whnf
      refine AWL.run E_ok Tryz.func102 2000 ?_
      conv => whnf
      simp [setB]

end Go.Proofs.YtebielkakdhelaaGreatDoor.P
end

/- Contracts by the engine: package sign, up to Check. Conditions: lengths that Go allows. -/
section
namespace Go.Proofs.YtebielkakdhelaaGreatDoor.P
open Go Go.Eng
set_option maxRecDepth 100000

theorem nunder_p (t z : Text) (ht : t.length ≤ maxLen) (hz : z.length ≤ maxLen) : PCalls E 103 [.str t, .str z] (· = .tup [.bool (Nm.vunder t z), .int .i64 (if Nm.valid t && Nm.valid z then 0 else 11)]) :=
  ofTexts (g := fun t z => .tup [.bool (Nm.vunder t z), .int .i64 (if Nm.valid t && Nm.valid z then 0 else 11)]) t z ⟨_, Tryz.func103, rfl, by decide⟩ fun w => (nunder_any ⟨t.toArray⟩ ⟨z.toArray⟩ w (size_mk ht) (size_mk hz)).mono fun e w' ⟨h1, h2⟩ => ⟨_, h1, fun _ _ => by
    simp only [toL_mk]
    exact .tup _ _ rfl (fun j x v hx hv => by
      match j with
      | 0 => simp at hx hv; subst hx; subst hv; exact .bool _
      | 1 => simp at hx hv; subst hx; subst hv; exact .int _ _
      | j + 2 => simp at hx), h2⟩

/-- One byte more of a digest. -/
def digStep (d : Int) (x : DV) : Int := match x with
  | .int _ n => IntKind.u64.wrap (bitI .xor .u64 d (IntKind.u64.wrap n) * 1099511628211)
  | _ => d
def dig (d : Int) (l : List DV) : Int := l.foldl digStep d
@[reducible] def isByte (x : DV) : Prop := ∃ n, x = .int .u8 n
theorem dig_append (d : Int) (l m : List DV) : dig d (l ++ m) = dig (dig d l) m := List.foldl_append
theorem dig_next {d : Int} {l : List DV} {k : Nat} {x : DV} (h : l[k]? = some x) : dig d (l.take (k + 1)) = digStep (dig d (l.take k)) x := by rw [take_next h, dig_append]; rfl

theorem add_a (d : Int) (l : List DV) (hl : l.length ≤ 2147483648) (hb : ∀ x ∈ l, isByte x) : ACalls E 105 [.cells [.d (.int .u64 d)]] [.ptr 0 0, .d (.sl l)] (fun a b => a = .tup [] ∧ b = [.cells [.d (.int .u64 (dig d l))]]) := by
  refine ACalls.run E_ok (fn := Tryz.f105) Tryz.func105 (body := Tryz.f105.body.getD .skip) rfl (by decide) 2000 rfl ?_
  conv => whnf
  refine AWL.loop (κ := Nat) [5, 8, 9, 10, 11, 12, 13, 14, 15, 16, 17, 18, 19, 20, 21] (fun k => [(8, .d (.int .i64 k))]) (fun k => [(0, .cells [.d (.int .u64 (dig d (l.take k)))])]) (fun k => k ≤ l.length) (fun k => l.length - k) 0 (Nat.zero_le _) ?_ ?_
  · conv => whnf
    repeat (first | exact trivial | (refine And.intro (by first | with_reducible rfl | exact congrArg (DV.int .i64) (by omega) | exact rfl | exact congrArg (DV.int .i64) (wrap64 (by omega) (by omega)) | exact congrArg (DV.int .i64) ((wrap64 (by omega) (by omega)).trans (by omega))) ?_; conv => whnf))
  · intro k hk IH
    refine AWL.head E_ok Tryz.func105 2000 ?_
    conv => whnf
    refine caseB_split (fun h => ?_) (fun h => ?_)
    · have hlt : k < l.length := by simpa using h
      obtain ⟨x, hx⟩ := some_of_lt hlt
      obtain ⟨n, rfl⟩ := hb x (List.mem_of_getElem? hx)
      conv => whnf
      refine AWL.run E_ok Tryz.func105 2000 ?_
      conv => whnf
      refine elemP_intro (.int .u8 n) (by omega) (by simpa using hx) rfl ?_
      conv => whnf
      refine AWL.run E_ok Tryz.func105 2000 ?_
      conv => whnf
      refine AWL.back (IH (k + 1) (by omega) (by omega)) ?_
      conv => whnf
      repeat (first | exact trivial | (refine And.intro (by first | with_reducible rfl | exact congrArg (DV.int .i64) (by omega) | exact congrArg _ (dig_next hx).symm | exact congrArg (DV.int .i64) (wrap64 (by omega) (by omega)) | exact congrArg (DV.int .i64) ((wrap64 (by omega) (by omega)).trans (by omega))) ?_; conv => whnf))
    · have hge : k = l.length := by simp at h; omega
      subst hge
      conv => whnf
      refine AWL.run E_ok Tryz.func105 2000 ?_
      conv => whnf
      simp

theorem numB_byte (n : Int) : ∀ x ∈ numB n, isByte x := by
  intro x hx
  simp only [numB, List.mem_map] at hx
  obtain ⟨k, -, rfl⟩ := hx
  exact ⟨_, rfl⟩
theorem textB_byte (t : Text) : ∀ x ∈ textB t, isByte x := by
  intro x hx
  simp only [textB, List.mem_cons, List.mem_map] at hx
  rcases hx with rfl | ⟨b, -, rfl⟩
  · exact ⟨_, rfl⟩
  · exact ⟨_, rfl⟩

def numsB (l : List Int) : List DV := l.flatMap numB
theorem numsB_next {l : List Int} {k : Nat} {x : Int} (h : l[k]? = some x) : numsB (l.take (k + 1)) = numsB (l.take k) ++ numB x := by
  rw [take_next h]; simp [numsB]

theorem numbers_a (d : Int) (l : List Int) (hl : l.length ≤ 2147483648) : ACalls E 145 [.cells [.d (.int .u64 d)]] [.d (.sl (l.map (.int .i64))), .ptr 0 0] (fun a b => a = .tup [] ∧ b = [.cells [.d (.int .u64 (dig d (numsB l)))]]) := by
  refine ACalls.run E_ok (fn := Tryz.f145) Tryz.func145 (body := Tryz.f145.body.getD .skip) rfl (by decide) 2000 rfl ?_
  conv => whnf
  refine AWL.loop (κ := Nat) [4, 5, 6, 9, 10, 11, 12, 13, 14, 15, 16, 17, 18, 19, 20, 21, 22, 23, 24, 25, 26, 27, 28] (fun k => [(9, .d (.int .i64 k))]) (fun k => [(0, .cells [.d (.int .u64 (dig d (numsB (l.take k))))])]) (fun k => k ≤ l.length) (fun k => l.length - k) 0 (Nat.zero_le _) ?_ ?_
  · conv => whnf
    repeat (first | exact trivial | (refine And.intro (by first | with_reducible rfl | exact congrArg (DV.int .i64) (by omega) | exact rfl | exact congrArg (DV.int .i64) (wrap64 (by omega) (by omega)) | exact congrArg (DV.int .i64) ((wrap64 (by omega) (by omega)).trans (by omega))) ?_; conv => whnf))
  · intro k hk IH
    refine AWL.head E_ok Tryz.func145 2000 ?_
    conv => whnf
    refine caseB_split (fun h => ?_) (fun h => ?_)
    · have hlt : k < l.length := by simpa using h
      obtain ⟨n, hn⟩ := some_of_lt hlt
      conv => whnf
      refine AWL.run E_ok Tryz.func145 2000 ?_
      conv => whnf
      refine elemP_intro (.int .i64 n) (by omega) (elem_map hn) rfl ?_
      conv => whnf
      refine AWL.run E_ok Tryz.func145 2000 ?_
      conv => whnf
      refine AWL.unroll ?_
      refine AWL.run E_ok Tryz.func145 2000 ?_
      conv => whnf
      iterate 8
        refine caseB_yes (by decide) ?_
        conv => whnf
        refine AWL.run E_ok Tryz.func145 2000 ?_
        conv => whnf
        refine need_intro (by decide) ?_
        conv => whnf
        refine AWL.run E_ok Tryz.func145 2000 ?_
        conv => whnf
        refine AWL.again ?_
        refine AWL.run E_ok Tryz.func145 2000 ?_
        conv => whnf
      refine caseB_no (by decide) ?_
      conv => whnf
      refine AWL.run E_ok Tryz.func145 2000 ?_
      conv => whnf
      refine callS_eq (add_a _ (numB n) (by simp [numB_len]) (numB_byte n)) ?_
      conv => whnf
      refine AWL.run E_ok Tryz.func145 2000 ?_
      conv => whnf
      refine AWL.back (IH (k + 1) (by omega) (by omega)) ?_
      conv => whnf
      repeat (first | exact trivial | (refine And.intro (by first | with_reducible rfl | exact congrArg (DV.int .i64) (by omega) | exact congrArg _ (by rw [numsB_next hn, dig_append]) | exact congrArg (DV.int .i64) (wrap64 (by omega) (by omega)) | exact congrArg (DV.int .i64) ((wrap64 (by omega) (by omega)).trans (by omega))) ?_; conv => whnf))
    · have hge : k = l.length := by simp at h; omega
      subst hge
      conv => whnf
      refine AWL.run E_ok Tryz.func145 2000 ?_
      conv => whnf
      simp

def dig0 : Int := 14695981039346656037
theorem digest_p (l : List DV) (hl : l.length ≤ 2147483648) (hb : ∀ x ∈ l, isByte x) : PCalls E 46 [.sl l] (· = .int .u64 (dig dig0 l)) := by
  refine PCalls.run E_ok (fn := Tryz.f46) Tryz.func46 (body := Tryz.f46.body.getD .skip) rfl (by decide) 2000 ?_
  conv => whnf
  with_reducible refine callS_eq (add_a _ l hl hb) ?_
  conv => whnf
  refine AWL.run E_ok Tryz.func46 2000 ?_
  conv => whnf
  rfl

/-- What is summed up. -/
def sumB (b : List DV) (zone : Text) (k : Key) (frm upto : Int) : List DV := b ++ textB zone ++ numsB [k.n, k.alg, frm, upto]
theorem sum_p (b : List DV) (zone : Text) (k : Key) (frm upto : Int) (hl : b.length ≤ 2147483648) (hb : ∀ x ∈ b, isByte x) (hz : zone.length ≤ 2147483647) : PCalls E 104 [.sl b, .str zone, k.enc, .int .i64 frm, .int .i64 upto] (· = .int .u64 (dig dig0 (sumB b zone k frm upto))) := by
  refine PCalls.run E_ok (fn := Tryz.f104) Tryz.func104 (body := Tryz.f104.body.getD .skip) rfl (by decide) 2000 ?_
  conv => whnf
  with_reducible refine callS_eq (add_a _ b hl hb) ?_
  conv => whnf
  refine AWL.run E_ok Tryz.func104 2000 ?_
  conv => whnf
  with_reducible refine callS_eq (add_a _ _ (by simp) (by simp [isByte])) ?_
  conv => whnf
  refine AWL.run E_ok Tryz.func104 2000 ?_
  conv => whnf
  with_reducible refine callS_eq (add_a _ _ (by simp; omega) (fun x hx => by obtain ⟨c, -, rfl⟩ := List.mem_map.1 hx; exact ⟨_, rfl⟩)) ?_
  conv => whnf
  refine AWL.run E_ok Tryz.func104 2000 ?_
  conv => whnf
  refine callS_eq (numbers_a _ [k.n, k.alg, frm, upto] (by simp)) ?_
  conv => whnf
  refine AWL.run E_ok Tryz.func104 2000 ?_
  conv => whnf
  simp only [sumB, textB, dig_append]
  rfl

def keyOK (k : Key) : Bool := decide (k.n ≥ 1) && decide (k.n ≤ 1000000) && decide (k.alg ≥ 1) && decide (k.alg ≤ 3)
theorem keyOK_p (k : Key) : PCalls E 53 [k.enc] (· = .bool (keyOK k)) := by
  refine PCalls.run E_ok (fn := Tryz.f53) Tryz.func53 (body := Tryz.f53.body.getD .skip) rfl (by decide) 2000 ?_
  conv => whnf
  repeat' (first | with_reducible refine caseB_true ?_ | with_reducible refine caseB_false ?_ | with_reducible refine caseB_yes (by decide) ?_ | with_reducible refine caseB_no (by decide) ?_ | with_reducible refine caseB_yes (by assumption) ?_ | with_reducible refine caseB_no (by assumption) ?_ | with_reducible refine caseB_split (fun _ => ?_) (fun _ => ?_) | ((conv => whnf); (with_reducible refine AWL.run E_ok Tryz.func53 2000 ?_); (conv => whnf); fail_if_success (with_reducible refine AWL.of ?_)) | ((conv => whnf); (with_reducible refine DWL.run E_ok 2000 ?_); (conv => whnf); fail_if_success (with_reducible refine DWL.is ?_)) | ((conv => whnf); (with_reducible refine SWL.run E_ok 2000 ?_); (conv => whnf); fail_if_success (with_reducible refine SWL.is ?_)))
  all_goals simp_all [keyOK]
  all_goals omega
def winOK (a b : Int) : Bool := decide (a ≥ 0) && decide (a ≤ b) && decide (b ≤ 20000000)
theorem winOK_p (a b : Int) : PCalls E 52 [.int .i64 a, .int .i64 b] (· = .bool (winOK a b)) := by
  refine PCalls.run E_ok (fn := Tryz.f52) Tryz.func52 (body := Tryz.f52.body.getD .skip) rfl (by decide) 2000 ?_
  conv => whnf
  repeat' (first | with_reducible refine caseB_true ?_ | with_reducible refine caseB_false ?_ | with_reducible refine caseB_yes (by decide) ?_ | with_reducible refine caseB_no (by decide) ?_ | with_reducible refine caseB_yes (by assumption) ?_ | with_reducible refine caseB_no (by assumption) ?_ | with_reducible refine caseB_split (fun _ => ?_) (fun _ => ?_) | ((conv => whnf); (with_reducible refine AWL.run E_ok Tryz.func52 2000 ?_); (conv => whnf); fail_if_success (with_reducible refine AWL.of ?_)) | ((conv => whnf); (with_reducible refine DWL.run E_ok 2000 ?_); (conv => whnf); fail_if_success (with_reducible refine DWL.is ?_)) | ((conv => whnf); (with_reducible refine SWL.run E_ok 2000 ?_); (conv => whnf); fail_if_success (with_reducible refine SWL.is ?_)))
  all_goals simp_all [winOK]
  all_goals omega

def signOK (s : RSet) (zone : Text) (k : Key) (frm upto : Int) : Bool := keyOK k && winOK frm upto && Nm.valid zone && !Nm.wild zone && setOK s && Nm.vunder s.name zone
def sigOf (s : RSet) (zone : Text) (k : Key) (frm upto : Int) : Sig := ⟨zone, k.n, k.alg, frm, upto, dig dig0 (sumB (setB s) zone k frm upto)⟩
def sig0 : Sig := ⟨[], 0, 0, 0, 0, 0⟩
def signR (s : RSet) (zone : Text) (k : Key) (frm upto : Int) : Sig := if signOK s zone k frm upto then sigOf s zone k frm upto else sig0
def signE (s : RSet) (zone : Text) (k : Key) (frm upto : Int) : Int := if signOK s zone k frm upto then 0 else 1

theorem setB_byte (s : RSet) : ∀ x ∈ setB s, isByte x := by
  intro x hx
  simp only [setB, headB, List.mem_append, List.mem_flatMap, datumB, List.mem_singleton] at hx
  rcases hx with (((h | h) | h) | h) | ⟨d, -, ((h | h) | h)⟩
  · exact textB_byte _ x h
  · exact numB_byte _ x h
  · exact numB_byte _ x h
  · exact ⟨_, h⟩
  · exact textB_byte _ x h
  · exact numB_byte _ x h
  · exact numB_byte _ x h
theorem setB_len {s : RSet} (h : setOK s = true) : (setB s).length ≤ 700 := by
  obtain ⟨hn, hd, -, ht⟩ := setOK_lens h
  have h1 := headB_len hn
  have h2 := dataB_len ht
  simp only [setB, List.length_append]
  omega

theorem sign_p (s : RSet) (zone : Text) (k : Key) (frm upto : Int) (hf : s.Fits) (hz : zone.length ≤ maxLen) : PCalls E 44 [s.enc, .str zone, k.enc, .int .i64 frm, .int .i64 upto] (· = .tup [(signR s zone k frm upto).enc, .int .i64 (signE s zone k frm upto)]) := by
  have no : signOK s zone k frm upto = false → signR s zone k frm upto = sig0 ∧ signE s zone k frm upto = 1 := fun h => by simp [signR, signE, h]
  cases hs : setOK s
  · refine PCalls.run E_ok (fn := Tryz.f44) Tryz.func44 (body := Tryz.f44.body.getD .skip) rfl (by decide) 2000 ?_
    conv => whnf
    repeat' (first | with_reducible refine callP_eq (keyOK_p _) ?_ | with_reducible refine callP1_eq (keyOK_p _) ?_ | with_reducible refine callP_eq (winOK_p _ _) ?_ | with_reducible refine callP1_eq (winOK_p _ _) ?_ | with_reducible refine callP_eq (nvalid_p _ hz) ?_ | with_reducible refine callP1_eq (nvalid_p _ hz) ?_ | with_reducible refine callP_eq (hasPrefix_p _ _) ?_ | with_reducible refine callP1_eq (hasPrefix_p _ _) ?_ | with_reducible refine callP_eq (bytesNo_p s hf hs) ?_ | with_reducible refine callP1_eq (bytesNo_p s hf hs) ?_ | with_reducible refine caseB_true ?_ | with_reducible refine caseB_false ?_ | with_reducible refine caseB_yes (by decide) ?_ | with_reducible refine caseB_no (by decide) ?_ | with_reducible refine caseB_yes (by assumption) ?_ | with_reducible refine caseB_no (by assumption) ?_ | with_reducible refine caseB_split (fun _ => ?_) (fun _ => ?_) | ((conv => whnf); (with_reducible refine AWL.run E_ok Tryz.func44 2000 ?_); (conv => whnf); fail_if_success (with_reducible refine AWL.of ?_)) | ((conv => whnf); (with_reducible refine DWL.run E_ok 2000 ?_); (conv => whnf); fail_if_success (with_reducible refine DWL.is ?_)) | ((conv => whnf); (with_reducible refine SWL.run E_ok 2000 ?_); (conv => whnf); fail_if_success (with_reducible refine SWL.is ?_)))
    all_goals (rw [(no (by simp_all [signOK, pre_star])).1, (no (by simp_all [signOK, pre_star])).2]; rfl)
  · refine PCalls.run E_ok (fn := Tryz.f44) Tryz.func44 (body := Tryz.f44.body.getD .skip) rfl (by decide) 2000 ?_
    conv => whnf
    repeat' (first | with_reducible refine callP_eq (keyOK_p _) ?_ | with_reducible refine callP1_eq (keyOK_p _) ?_ | with_reducible refine callP_eq (winOK_p _ _) ?_ | with_reducible refine callP1_eq (winOK_p _ _) ?_ | with_reducible refine callP_eq (nvalid_p _ hz) ?_ | with_reducible refine callP1_eq (nvalid_p _ hz) ?_ | with_reducible refine callP_eq (hasPrefix_p _ _) ?_ | with_reducible refine callP1_eq (hasPrefix_p _ _) ?_ | with_reducible refine callP_eq (bytes_p s hf hs) ?_ | with_reducible refine callP1_eq (bytes_p s hf hs) ?_ | with_reducible refine callP_eq (nunder_p _ _ hf.name hz) ?_ | with_reducible refine callP1_eq (nunder_p _ _ hf.name hz) ?_ | with_reducible refine caseB_true ?_ | with_reducible refine caseB_false ?_ | with_reducible refine caseB_yes (by decide) ?_ | with_reducible refine caseB_no (by decide) ?_ | with_reducible refine caseB_yes (by assumption) ?_ | with_reducible refine caseB_no (by assumption) ?_ | with_reducible refine caseB_split (fun _ => ?_) (fun _ => ?_) | ((conv => whnf); (with_reducible refine AWL.run E_ok Tryz.func44 2000 ?_); (conv => whnf); fail_if_success (with_reducible refine AWL.of ?_)) | ((conv => whnf); (with_reducible refine DWL.run E_ok 2000 ?_); (conv => whnf); fail_if_success (with_reducible refine DWL.is ?_)) | ((conv => whnf); (with_reducible refine SWL.run E_ok 2000 ?_); (conv => whnf); fail_if_success (with_reducible refine SWL.is ?_)))
    all_goals try (rw [(no (by simp_all [signOK, pre_star])).1, (no (by simp_all [signOK, pre_star])).2]; rfl)
    rename_i h1 h2 h3 h4 h5
    have hok : signOK s zone k frm upto = true := by simp_all [signOK, pre_star]
    have hzl : zone.length ≤ 60 := valid_len (by simpa using h3)
    have hbl := setB_len hs
    conv => whnf
    refine AWL.run E_ok Tryz.func44 2000 ?_
    conv => whnf
    refine AWL.draw E_ok E_mixed 14 2000 (by kernel_rfl) ?_
    conv => whnf
    with_reducible refine callP1_eq (sum_p _ _ _ _ _ (by omega) (setB_byte s) (by omega)) ?_
    conv => whnf
    refine DWL.run E_ok 2000 ?_
    conv => whnf
    conv => whnf
    refine SWL.run E_ok 2000 ?_
    conv => whnf
    conv => whnf
    refine AWL.run E_ok Tryz.func44 2000 ?_
    conv => whnf
    simp only [signR, signE, hok, if_true]
    rfl

/-- Two signatures, compared field by field. -/
def sigEq (a b : Sig) : Bool := (a.zone == b.zone && (a.key == b.key && (a.alg == b.alg && (a.frm == b.frm && (a.upto == b.upto && (a.sum == b.sum && true))))))
theorem sigEq_iff {a b : Sig} : sigEq a b = true ↔ a = b := by
  obtain ⟨a1, a2, a3, a4, a5, a6⟩ := a
  obtain ⟨b1, b2, b3, b4, b5, b6⟩ := b
  simp [sigEq]
/-- Is a signature that of the set by the key? -/
def checkB (s : RSet) (g : Sig) (k : Key) : Bool := signOK s g.zone k g.frm g.upto && sigEq (sigOf s g.zone k g.frm g.upto) g
theorem check_p (s : RSet) (g : Sig) (k : Key) (hf : s.Fits) (hz : g.zone.length ≤ maxLen) : PCalls E 18 [s.enc, g.enc, k.enc] (· = .bool (checkB s g k)) := by
  refine PCalls.run E_ok (fn := Tryz.f18) Tryz.func18 (body := Tryz.f18.body.getD .skip) rfl (by decide) 2000 ?_
  conv => whnf
  with_reducible refine callP_eq (sign_p s g.zone k g.frm g.upto hf hz) ?_
  conv => whnf
  refine AWL.run E_ok Tryz.func18 2000 ?_
  conv => whnf
  cases h : signOK s g.zone k g.frm g.upto
  · simp only [signR, signE, h, checkB]
    repeat' (first | with_reducible refine caseB_true ?_ | with_reducible refine caseB_false ?_ | with_reducible refine caseB_yes (by decide) ?_ | with_reducible refine caseB_no (by decide) ?_ | with_reducible refine caseB_yes (by assumption) ?_ | with_reducible refine caseB_no (by assumption) ?_ | with_reducible refine caseB_split (fun _ => ?_) (fun _ => ?_) | ((conv => whnf); (with_reducible refine AWL.run E_ok Tryz.func18 2000 ?_); (conv => whnf); fail_if_success (with_reducible refine AWL.of ?_)) | ((conv => whnf); (with_reducible refine DWL.run E_ok 2000 ?_); (conv => whnf); fail_if_success (with_reducible refine DWL.is ?_)) | ((conv => whnf); (with_reducible refine SWL.run E_ok 2000 ?_); (conv => whnf); fail_if_success (with_reducible refine SWL.is ?_)))
    rfl
  · simp only [signR, signE, h, checkB]
    repeat' (first | with_reducible refine caseB_true ?_ | with_reducible refine caseB_false ?_ | with_reducible refine caseB_yes (by decide) ?_ | with_reducible refine caseB_no (by decide) ?_ | with_reducible refine caseB_yes (by assumption) ?_ | with_reducible refine caseB_no (by assumption) ?_ | with_reducible refine caseB_split (fun _ => ?_) (fun _ => ?_) | ((conv => whnf); (with_reducible refine AWL.run E_ok Tryz.func18 2000 ?_); (conv => whnf); fail_if_success (with_reducible refine AWL.of ?_)) | ((conv => whnf); (with_reducible refine DWL.run E_ok 2000 ?_); (conv => whnf); fail_if_success (with_reducible refine DWL.is ?_)) | ((conv => whnf); (with_reducible refine SWL.run E_ok 2000 ?_); (conv => whnf); fail_if_success (with_reducible refine SWL.is ?_)))
    rfl

end Go.Proofs.YtebielkakdhelaaGreatDoor.P
end
