/- The table of this seat's types, made by program out of the translation; Lean checks it; conditions: none. -/
import Derived.Test.YtdbnkimegdogjaaGA
import Derived.Test.YtdbnkimegdogjaaProg
import Derived.KernelRfl
namespace Go.Proofs.Ytdbnkimegdogjaa.X
open Go Go.Proofs
def tab : Tab :=
  { kind := [0, 0, 2, 2, 1, 2, 2, 6, 6, 3, 3, 3,
      2, 6, 6, 8, 8, 8, 6, 6, 7, 2, 2, 6,
      6, 4, 6, 6, 4, 0, 0, 0, 4, 0, 0, 0,
      0, 0, 0, 0, 0, 0, 6, 0, 4, 0, 0, 0,
      0, 0, 0, 0, 0, 0, 0, 6, 6, 5, 0, 0,
      0, 2, 2, 0, 8, 2, 2, 6, 6, 0]
    size := [0, 0, 1, 1, 1, 1, 1, 4, 4, 1, 1, 1,
      1, 2, 2, 1, 1, 1, 1, 1, 1, 1, 1, 5,
      5, 1, 4, 4, 1, 0, 0, 0, 1, 0, 0, 0,
      0, 0, 0, 0, 0, 0, 4, 0, 1, 0, 0, 0,
      0, 0, 0, 0, 0, 0, 0, 4, 4, 0, 0, 0,
      0, 1, 1, 0, 1, 1, 1, 11, 11, 0]
    ik := [.i64, .i64, .i64, .i64, .i64, .u8, .u8, .i64, .i64, .i64, .i64, .i64,
      .u64, .i64, .i64, .i64, .i64, .i64, .i64, .i64, .i64, .i32, .u32, .i64,
      .i64, .i64, .i64, .i64, .i64, .i64, .i64, .i64, .i64, .i64, .i64, .i64,
      .i64, .i64, .i64, .i64, .i64, .i64, .i64, .i64, .i64, .i64, .i64, .i64,
      .i64, .i64, .i64, .i64, .i64, .i64, .i64, .i64, .i64, .i64, .i64, .i64,
      .i64, .u8, .u8, .i64, .i64, .i32, .i32, .i64, .i64, .i64]
    elem := [0, 0, 0, 0, 0, 0, 0, 0, 0, 0, 0, 0,
      0, 0, 0, 56, 59, 68, 0, 0, 0, 0, 0, 0,
      0, 24, 0, 0, 27, 0, 0, 0, 42, 0, 0, 0,
      0, 0, 0, 0, 0, 0, 0, 0, 4, 0, 0, 0,
      0, 0, 0, 0, 0, 0, 0, 0, 0, 16, 0, 0,
      0, 0, 0, 0, 5, 0, 0, 0, 0, 0]
    alen := [0, 0, 0, 0, 0, 0, 0, 0, 0, 0, 0, 0,
      0, 0, 0, 0, 0, 0, 0, 0, 0, 0, 0, 0,
      0, 0, 0, 0, 0, 0, 0, 0, 0, 0, 0, 0,
      0, 0, 0, 0, 0, 0, 0, 0, 0, 0, 0, 0,
      0, 0, 0, 0, 0, 0, 0, 0, 0, 0, 0, 0,
      0, 0, 0, 0, 0, 0, 0, 0, 0, 0]
    flds := [[], [], [], [], [], [], [], [(0, 1, false), (1, 1, false), (2, 1, false), (3, 1, false)], [(0, 1, false), (1, 1, false), (2, 1, false), (3, 1, false)], [], [], [],
      [], [(0, 1, false), (1, 1, false)], [(0, 1, false), (1, 1, false)], [], [], [], [(0, 1, false)], [(0, 1, false)], [], [], [], [(0, 1, false), (1, 1, false), (2, 1, false), (3, 1, false), (4, 1, false)],
      [(0, 1, false), (1, 1, false), (2, 1, false), (3, 1, false), (4, 1, false)], [], [(0, 1, false), (1, 1, false), (2, 1, false), (3, 1, false)], [(0, 1, false), (1, 1, false), (2, 1, false), (3, 1, false)], [], [], [], [], [], [], [], [],
      [], [], [], [], [], [], [(0, 1, false), (1, 1, false), (2, 1, false), (3, 1, false)], [], [], [], [], [],
      [], [], [], [], [], [], [], [(0, 1, false), (1, 1, false), (2, 1, false), (3, 1, false)], [(0, 1, false), (1, 1, false), (2, 1, false), (3, 1, false)], [], [], [],
      [], [], [], [], [], [], [], [(0, 1, false), (1, 1, false), (2, 1, false), (3, 1, false), (4, 1, false), (5, 1, false), (6, 1, false), (7, 1, false), (8, 1, false), (9, 1, false), (10, 1, false)], [(0, 1, false), (1, 1, false), (2, 1, false), (3, 1, false), (4, 1, false), (5, 1, false), (6, 1, false), (7, 1, false), (8, 1, false), (9, 1, false), (10, 1, false)], []]
    zero := [[], [], [.int .i64 0], [.int .i64 0], [.bool false], [.int .u8 0], [.int .u8 0], [.int .i64 0, .int .i64 0, .bool false, .int .u8 0], [.int .i64 0, .int .i64 0, .bool false, .int .u8 0], [.string ByteArray.empty], [.string ByteArray.empty], [.string ByteArray.empty],
      [.int .u64 0], [.string ByteArray.empty, .int .u64 0], [.string ByteArray.empty, .int .u64 0], [.pointer none], [.pointer none], [.pointer none], [.pointer none], [.pointer none], [.nilIface], [.int .i32 0], [.int .u32 0], [.int .i64 0, .int .i64 0, .int .i64 0, .int .i64 0, .int .u32 0],
      [.int .i64 0, .int .i64 0, .int .i64 0, .int .i64 0, .int .u32 0], [.slice none 0 0], [.int .i64 0, .int .i64 0, .bool false, .slice none 0 0], [.int .i64 0, .int .i64 0, .bool false, .slice none 0 0], [.slice none 0 0], [], [], [], [.slice none 0 0], [], [], [],
      [], [], [], [], [], [], [.int .i64 0, .int .i64 0, .bool false, .slice none 0 0], [], [.slice none 0 0], [], [], [],
      [], [], [], [], [], [], [], [.pointer none, .pointer none, .pointer none, .string ByteArray.empty], [.pointer none, .pointer none, .pointer none, .string ByteArray.empty], [], [], [],
      [], [.int .u8 0], [.int .u8 0], [], [.pointer none], [.int .i32 0], [.int .i32 0], [.int .u64 0, .int .u64 0, .int .u32 0, .int .u8 0, .int .u8 0, .int .u8 0, .int .u8 0, .nilFunc, .pointer none, .int .i32 0, .int .i32 0], [.int .u64 0, .int .u64 0, .int .u32 0, .int .u8 0, .int .u8 0, .int .u8 0, .int .u8 0, .nilFunc, .pointer none, .int .i32 0, .int .i32 0], []] }
theorem tab_ok : tab.ok Try.prog = true := by kernel_rfl
noncomputable def cf : Cfg := ⟨Try.prog, tab, tab_ok⟩
theorem mo : cf.P.follows .mixedOrders = true := by kernel_rfl
end Go.Proofs.Ytdbnkimegdogjaa.X
