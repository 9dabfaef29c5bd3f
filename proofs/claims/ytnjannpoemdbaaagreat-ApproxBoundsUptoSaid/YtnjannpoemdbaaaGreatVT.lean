/- The types of the program, as the executor wants them. -/
import Derived.Test.YtnjannpoemdbaaaGreatVC
import Derived.KernelRfl
namespace Go.Proofs.YtnjannpoemdbaaaGreat
open Go.RowKit Gm Go.Vx
def TT : List (Nat × TI) := [
  (3, ⟨false, 1, [.int .i64 0], [], none, some .i64, false⟩),
  (4, ⟨false, 1, [.bool false], [], none, none, true⟩),
  (24, ⟨true, 2, [.bool false, .slice none 0 0], [(0, 1), (1, 1)], none, none, false⟩),
  (25, ⟨true, 3, [.bool false, .slice none 0 0, .slice none 0 0], [(0, 2), (2, 1)], none, none, false⟩),
  (26, ⟨true, 3, [.bool false, .slice none 0 0, .slice none 0 0], [(0, 2), (2, 1)], none, none, false⟩),
  (46, ⟨false, 1, [.slice none 0 0], [], some 24, none, false⟩),
  (54, ⟨true, 4, [.bool false, .slice none 0 0, .bool false, .slice none 0 0], [(0, 2), (2, 2)], none, none, false⟩),
  (2, ⟨false, 1, [.int .i64 0], [], none, some .i64, false⟩),
  (5, ⟨false, 1, [.int .u8 0], [], none, some .u8, false⟩),
  (6, ⟨false, 1, [.int .u8 0], [], none, some .u8, false⟩),
  (7, ⟨true, 4, [.int .i64 0, .int .i64 0, .bool false, .int .u8 0], [(0, 1), (1, 1), (2, 1), (3, 1)], none, none, false⟩),
  (8, ⟨true, 4, [.int .i64 0, .int .i64 0, .bool false, .int .u8 0], [(0, 1), (1, 1), (2, 1), (3, 1)], none, none, false⟩),
  (12, ⟨false, 1, [.int .u64 0], [], none, some .u64, false⟩),
  (15, ⟨false, 1, [.pointer none], [], none, none, false⟩),
  (16, ⟨false, 1, [.pointer none], [], none, none, false⟩),
  (17, ⟨false, 1, [.pointer none], [], none, none, false⟩),
  (18, ⟨true, 1, [.pointer none], [(0, 1)], none, none, false⟩),
  (19, ⟨true, 1, [.pointer none], [(0, 1)], none, none, false⟩),
  (21, ⟨false, 1, [.int .i32 0], [], none, some .i32, false⟩),
  (22, ⟨false, 1, [.slice none 0 0], [], some 62, none, false⟩),
  (23, ⟨true, 2, [.bool false, .slice none 0 0], [(0, 1), (1, 1)], none, none, false⟩),
  (27, ⟨false, 1, [.int .i8 0], [], none, some .i8, false⟩),
  (39, ⟨false, 1, [.int .u64 0], [], none, some .u64, false⟩),
  (55, ⟨true, 4, [.bool false, .slice none 0 0, .bool false, .slice none 0 0], [(0, 2), (2, 2)], none, none, false⟩),
  (62, ⟨false, 1, [.int .u32 0], [], none, some .u32, false⟩),
  (63, ⟨false, 1, [.int .u64 0], [], none, some .u64, false⟩),
  (97, ⟨true, 5, [.int .u64 0, .int .u64 0, .int .u64 0, .int .u64 0, .bool false], [(0, 1), (1, 1), (2, 1), (3, 1), (4, 1)], none, none, false⟩),
  (98, ⟨true, 5, [.int .u64 0, .int .u64 0, .int .u64 0, .int .u64 0, .bool false], [(0, 1), (1, 1), (2, 1), (3, 1), (4, 1)], none, none, false⟩),
  (114, ⟨false, 1, [.int .u8 0], [], none, some .u8, false⟩),
  (115, ⟨false, 1, [.int .u8 0], [], none, some .u8, false⟩),
  (117, ⟨false, 1, [.pointer none], [], none, none, false⟩),
  (118, ⟨false, 1, [.int .i32 0], [], none, some .i32, false⟩),
  (119, ⟨false, 1, [.int .i32 0], [], none, some .i32, false⟩)]
set_option maxRecDepth 100000 in
theorem TT_ok : ttCheck Tryz.prog TT = true := by kernel_rfl
theorem mixed_ok : Tryz.prog.follows .mixedOrders = true := by kernel_rfl
end Go.Proofs.YtnjannpoemdbaaaGreat
