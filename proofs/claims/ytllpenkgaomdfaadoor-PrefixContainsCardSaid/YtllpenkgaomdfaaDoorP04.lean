/- Contracts of the functions that the statement reaches. -/
import Derived.Test.YtllpenkgaomdfaaDoorP03
import Derived.Lib.LaidTab
import Derived.Lib.ItoaNum
import Derived.Test.YtllpenkgaomdfaaDoorProg
import Derived.KernelRfl
import Derived.Test.YtllpenkgaomdfaaDoorP02
import Derived.JoinedCond
import Derived.SizedLaws
import Derived.ProofKit
import Derived.OpenShut
import Derived.LaidMore
import Derived.Lay
import Derived.SevenTiedAt
import Derived.Stop.Joined
import Derived.Test.YtllpenkgaomdfaaDoorRows
import Derived.Test.YtllpenkgaomdfaaDoorCards
import Derived.Test.YtllpenkgaomdfaaDoorTie
import Derived.Stop.LaidErr
import Derived.Shelf.Vars
import Derived.HandedShaped
set_option linter.all false
set_option maxRecDepth 100000
namespace Go.Proofs.YtllpenkgaomdfaaDoor.Vm
open Go
def TT : List (List TI) := [
  [⟨.other, 0, 0, []⟩,
   ⟨.func, 1, 8, [.nilfunc]⟩,
   ⟨(.int .i64), 1, 8, [.int .i64 0]⟩,
   ⟨(.int .i64), 1, 8, [.int .i64 0]⟩,
   ⟨.bool, 1, 1, [.bool false]⟩,
   ⟨(.int .u8), 1, 1, [.int .u8 0]⟩,
   ⟨(.int .u8), 1, 1, [.int .u8 0]⟩,
   ⟨(.struct [(0, 2), (1, 3), (2, 4), (3, 6)]), 4, 24, [.int .i64 0, .int .i64 0, .bool false, .int .u8 0]⟩,
   ⟨(.struct [(0, 2), (1, 3), (2, 4), (3, 6)]), 4, 24, [.int .i64 0, .int .i64 0, .bool false, .int .u8 0]⟩,
   ⟨.str, 1, 16, [.str []]⟩,
   ⟨.str, 1, 16, [.str []]⟩,
   ⟨.str, 1, 16, [.str []]⟩,
   ⟨(.int .u64), 1, 8, [.int .u64 0]⟩,
   ⟨(.struct [(0, 9), (1, 12)]), 2, 24, [.str [], .int .u64 0]⟩,
   ⟨(.struct [(0, 9), (1, 12)]), 2, 24, [.str [], .int .u64 0]⟩,
   ⟨(.ptr 142), 1, 8, [.nilptr]⟩],
  [⟨(.ptr 145), 1, 8, [.nilptr]⟩,
   ⟨(.ptr 153), 1, 8, [.nilptr]⟩,
   ⟨(.struct [(0, 17)]), 1, 8, [.nilptr]⟩,
   ⟨(.struct [(0, 17)]), 1, 8, [.nilptr]⟩,
   ⟨.iface, 1, 16, [.nilif]⟩,
   ⟨(.int .i32), 1, 4, [.int .i32 0]⟩,
   ⟨(.int .u32), 1, 4, [.int .u32 0]⟩,
   ⟨(.struct [(0, 22), (1, 3)]), 2, 16, [.int .u32 0, .int .i64 0]⟩,
   ⟨(.struct [(0, 22), (1, 3)]), 2, 16, [.int .u32 0, .int .i64 0]⟩,
   ⟨.func, 1, 8, [.nilfunc]⟩,
   ⟨.func, 1, 8, [.nilfunc]⟩,
   ⟨.func, 1, 8, [.nilfunc]⟩,
   ⟨(.int .i64), 1, 8, [.int .i64 0]⟩,
   ⟨.other, 0, 0, []⟩,
   ⟨.func, 1, 8, [.nilfunc]⟩,
   ⟨.func, 1, 8, [.nilfunc]⟩],
  [⟨.func, 1, 8, [.nilfunc]⟩,
   ⟨.func, 1, 8, [.nilfunc]⟩,
   ⟨.func, 1, 8, [.nilfunc]⟩,
   ⟨.other, 0, 0, []⟩,
   ⟨.func, 1, 8, [.nilfunc]⟩,
   ⟨.func, 1, 8, [.nilfunc]⟩,
   ⟨.func, 1, 8, [.nilfunc]⟩,
   ⟨(.sl 24), 1, 24, [.sl (some true) false []]⟩,
   ⟨.func, 1, 8, [.nilfunc]⟩,
   ⟨.other, 0, 0, []⟩,
   ⟨.func, 1, 8, [.nilfunc]⟩,
   ⟨.func, 1, 8, [.nilfunc]⟩,
   ⟨.func, 1, 8, [.nilfunc]⟩,
   ⟨.func, 1, 8, [.nilfunc]⟩,
   ⟨(.sl 9), 1, 24, [.sl (some true) false []]⟩,
   ⟨.func, 1, 8, [.nilfunc]⟩],
  [⟨.func, 1, 8, [.nilfunc]⟩,
   ⟨(.int .u64), 1, 8, [.int .u64 0]⟩,
   ⟨.func, 1, 8, [.nilfunc]⟩,
   ⟨.func, 1, 8, [.nilfunc]⟩,
   ⟨.other, 0, 0, []⟩,
   ⟨.func, 1, 8, [.nilfunc]⟩,
   ⟨.func, 1, 8, [.nilfunc]⟩,
   ⟨.iface, 1, 16, [.nilif]⟩,
   ⟨.iface, 1, 16, [.nilif]⟩,
   ⟨.other, 0, 0, []⟩,
   ⟨.func, 1, 8, [.nilfunc]⟩,
   ⟨(.arr 5 3), 5, 40, [.int .i64 0, .int .i64 0, .int .i64 0, .int .i64 0, .int .i64 0]⟩,
   ⟨.func, 1, 8, [.nilfunc]⟩,
   ⟨.func, 1, 8, [.nilfunc]⟩,
   ⟨.func, 1, 8, [.nilfunc]⟩,
   ⟨.func, 1, 8, [.nilfunc]⟩],
  [⟨.func, 1, 8, [.nilfunc]⟩,
   ⟨(.ptr 68), 1, 8, [.nilptr]⟩,
   ⟨(.sl 5), 1, 24, [.sl (some true) false []]⟩,
   ⟨(.struct [(0, 65), (1, 66)]), 2, 32, [.nilptr, .sl (some true) false []]⟩,
   ⟨(.struct [(0, 65), (1, 66)]), 2, 32, [.nilptr, .sl (some true) false []]⟩,
   ⟨.func, 1, 8, [.nilfunc]⟩,
   ⟨.func, 1, 8, [.nilfunc]⟩,
   ⟨(.int .u64), 1, 8, [.int .u64 0]⟩,
   ⟨.func, 1, 8, [.nilfunc]⟩,
   ⟨.func, 1, 8, [.nilfunc]⟩,
   ⟨(.sl 3), 1, 24, [.sl (some true) false []]⟩,
   ⟨.func, 1, 8, [.nilfunc]⟩,
   ⟨.func, 1, 8, [.nilfunc]⟩,
   ⟨.func, 1, 8, [.nilfunc]⟩,
   ⟨.func, 1, 8, [.nilfunc]⟩,
   ⟨.func, 1, 8, [.nilfunc]⟩],
  [⟨(.ptr 5), 1, 8, [.nilptr]⟩,
   ⟨.func, 1, 8, [.nilfunc]⟩,
   ⟨.func, 1, 8, [.nilfunc]⟩,
   ⟨(.int .i64), 1, 8, [.int .i64 0]⟩,
   ⟨.other, 0, 0, []⟩,
   ⟨.func, 1, 8, [.nilfunc]⟩,
   ⟨(.ptr 115), 1, 8, [.nilptr]⟩,
   ⟨.func, 1, 8, [.nilfunc]⟩,
   ⟨.func, 1, 8, [.nilfunc]⟩,
   ⟨.func, 1, 8, [.nilfunc]⟩,
   ⟨(.int .i64), 1, 8, [.int .i64 0]⟩,
   ⟨.other, 0, 0, []⟩,
   ⟨.func, 1, 8, [.nilfunc]⟩,
   ⟨.func, 1, 8, [.nilfunc]⟩,
   ⟨.func, 1, 8, [.nilfunc]⟩,
   ⟨.other, 0, 0, []⟩],
  [⟨.func, 1, 8, [.nilfunc]⟩,
   ⟨.func, 1, 8, [.nilfunc]⟩,
   ⟨.func, 1, 8, [.nilfunc]⟩,
   ⟨(.arr 24 5), 24, 24, [.int .u8 0, .int .u8 0, .int .u8 0, .int .u8 0, .int .u8 0, .int .u8 0, .int .u8 0, .int .u8 0, .int .u8 0, .int .u8 0, .int .u8 0, .int .u8 0, .int .u8 0, .int .u8 0, .int .u8 0, .int .u8 0, .int .u8 0, .int .u8 0, .int .u8 0, .int .u8 0, .int .u8 0, .int .u8 0, .int .u8 0, .int .u8 0]⟩,
   ⟨.func, 1, 8, [.nilfunc]⟩,
   ⟨.other, 0, 0, []⟩,
   ⟨.func, 1, 8, [.nilfunc]⟩,
   ⟨.other, 1, 8, [.nilptr]⟩,
   ⟨.func, 1, 8, [.nilfunc]⟩,
   ⟨.func, 1, 8, [.nilfunc]⟩,
   ⟨.func, 1, 8, [.nilfunc]⟩,
   ⟨.func, 1, 8, [.nilfunc]⟩,
   ⟨.func, 1, 8, [.nilfunc]⟩,
   ⟨.other, 0, 0, []⟩,
   ⟨.func, 1, 8, [.nilfunc]⟩,
   ⟨.other, 0, 0, []⟩],
  [⟨.func, 1, 8, [.nilfunc]⟩,
   ⟨.func, 1, 8, [.nilfunc]⟩,
   ⟨(.struct [(0, 9), (1, 9), (2, 56)]), 3, 48, [.str [], .str [], .nilif]⟩,
   ⟨(.struct [(0, 9), (1, 9), (2, 56)]), 3, 48, [.str [], .str [], .nilif]⟩,
   ⟨.func, 1, 8, [.nilfunc]⟩,
   ⟨(.int .u64), 1, 8, [.int .u64 0]⟩,
   ⟨.func, 1, 8, [.nilfunc]⟩,
   ⟨.func, 1, 8, [.nilfunc]⟩,
   ⟨.func, 1, 8, [.nilfunc]⟩,
   ⟨(.ptr 3), 1, 8, [.nilptr]⟩,
   ⟨.func, 1, 8, [.nilfunc]⟩,
   ⟨.func, 1, 8, [.nilfunc]⟩,
   ⟨(.arr 20 71), 20, 160, [.int .u64 0, .int .u64 0, .int .u64 0, .int .u64 0, .int .u64 0, .int .u64 0, .int .u64 0, .int .u64 0, .int .u64 0, .int .u64 0, .int .u64 0, .int .u64 0, .int .u64 0, .int .u64 0, .int .u64 0, .int .u64 0, .int .u64 0, .int .u64 0, .int .u64 0, .int .u64 0]⟩,
   ⟨(.arr 65 5), 65, 65, [.int .u8 0, .int .u8 0, .int .u8 0, .int .u8 0, .int .u8 0, .int .u8 0, .int .u8 0, .int .u8 0, .int .u8 0, .int .u8 0, .int .u8 0, .int .u8 0, .int .u8 0, .int .u8 0, .int .u8 0, .int .u8 0, .int .u8 0, .int .u8 0, .int .u8 0, .int .u8 0, .int .u8 0, .int .u8 0, .int .u8 0, .int .u8 0, .int .u8 0, .int .u8 0, .int .u8 0, .int .u8 0, .int .u8 0, .int .u8 0, .int .u8 0, .int .u8 0, .int .u8 0, .int .u8 0, .int .u8 0, .int .u8 0, .int .u8 0, .int .u8 0, .int .u8 0, .int .u8 0, .int .u8 0, .int .u8 0, .int .u8 0, .int .u8 0, .int .u8 0, .int .u8 0, .int .u8 0, .int .u8 0, .int .u8 0, .int .u8 0, .int .u8 0, .int .u8 0, .int .u8 0, .int .u8 0, .int .u8 0, .int .u8 0, .int .u8 0, .int .u8 0, .int .u8 0, .int .u8 0, .int .u8 0, .int .u8 0, .int .u8 0, .int .u8 0, .int .u8 0]⟩,
   ⟨.other, 0, 0, []⟩,
   ⟨.func, 1, 8, [.nilfunc]⟩],
  [⟨.func, 1, 8, [.nilfunc]⟩,
   ⟨(.ptr 131), 1, 8, [.nilptr]⟩,
   ⟨(.struct [(0, 9)]), 1, 16, [.str []]⟩,
   ⟨(.struct [(0, 9)]), 1, 16, [.str []]⟩,
   ⟨(.ptr 117), 1, 8, [.nilptr]⟩,
   ⟨.other, 0, 0, []⟩,
   ⟨.func, 1, 8, [.nilfunc]⟩,
   ⟨(.arr 256 5), 256, 256, [.int .u8 0, .int .u8 0, .int .u8 0, .int .u8 0, .int .u8 0, .int .u8 0, .int .u8 0, .int .u8 0, .int .u8 0, .int .u8 0, .int .u8 0, .int .u8 0, .int .u8 0, .int .u8 0, .int .u8 0, .int .u8 0, .int .u8 0, .int .u8 0, .int .u8 0, .int .u8 0, .int .u8 0, .int .u8 0, .int .u8 0, .int .u8 0, .int .u8 0, .int .u8 0, .int .u8 0, .int .u8 0, .int .u8 0, .int .u8 0, .int .u8 0, .int .u8 0, .int .u8 0, .int .u8 0, .int .u8 0, .int .u8 0, .int .u8 0, .int .u8 0, .int .u8 0, .int .u8 0, .int .u8 0, .int .u8 0, .int .u8 0, .int .u8 0, .int .u8 0, .int .u8 0, .int .u8 0, .int .u8 0, .int .u8 0, .int .u8 0, .int .u8 0, .int .u8 0, .int .u8 0, .int .u8 0, .int .u8 0, .int .u8 0, .int .u8 0, .int .u8 0, .int .u8 0, .int .u8 0, .int .u8 0, .int .u8 0, .int .u8 0, .int .u8 0, .int .u8 0, .int .u8 0, .int .u8 0, .int .u8 0, .int .u8 0, .int .u8 0, .int .u8 0, .int .u8 0, .int .u8 0, .int .u8 0, .int .u8 0, .int .u8 0, .int .u8 0, .int .u8 0, .int .u8 0, .int .u8 0, .int .u8 0, .int .u8 0, .int .u8 0, .int .u8 0, .int .u8 0, .int .u8 0, .int .u8 0, .int .u8 0, .int .u8 0, .int .u8 0, .int .u8 0, .int .u8 0, .int .u8 0, .int .u8 0, .int .u8 0, .int .u8 0, .int .u8 0, .int .u8 0, .int .u8 0, .int .u8 0, .int .u8 0, .int .u8 0, .int .u8 0, .int .u8 0, .int .u8 0, .int .u8 0, .int .u8 0, .int .u8 0, .int .u8 0, .int .u8 0, .int .u8 0, .int .u8 0, .int .u8 0, .int .u8 0, .int .u8 0, .int .u8 0, .int .u8 0, .int .u8 0, .int .u8 0, .int .u8 0, .int .u8 0, .int .u8 0, .int .u8 0, .int .u8 0, .int .u8 0, .int .u8 0, .int .u8 0, .int .u8 0, .int .u8 0, .int .u8 0, .int .u8 0, .int .u8 0, .int .u8 0, .int .u8 0, .int .u8 0, .int .u8 0, .int .u8 0, .int .u8 0, .int .u8 0, .int .u8 0, .int .u8 0, .int .u8 0, .int .u8 0, .int .u8 0, .int .u8 0, .int .u8 0, .int .u8 0, .int .u8 0, .int .u8 0, .int .u8 0, .int .u8 0, .int .u8 0, .int .u8 0, .int .u8 0, .int .u8 0, .int .u8 0, .int .u8 0, .int .u8 0, .int .u8 0, .int .u8 0, .int .u8 0, .int .u8 0, .int .u8 0, .int .u8 0, .int .u8 0, .int .u8 0, .int .u8 0, .int .u8 0, .int .u8 0, .int .u8 0, .int .u8 0, .int .u8 0, .int .u8 0, .int .u8 0, .int .u8 0, .int .u8 0, .int .u8 0, .int .u8 0, .int .u8 0, .int .u8 0, .int .u8 0, .int .u8 0, .int .u8 0, .int .u8 0, .int .u8 0, .int .u8 0, .int .u8 0, .int .u8 0, .int .u8 0, .int .u8 0, .int .u8 0, .int .u8 0, .int .u8 0, .int .u8 0, .int .u8 0, .int .u8 0, .int .u8 0, .int .u8 0, .int .u8 0, .int .u8 0, .int .u8 0, .int .u8 0, .int .u8 0, .int .u8 0, .int .u8 0, .int .u8 0, .int .u8 0, .int .u8 0, .int .u8 0, .int .u8 0, .int .u8 0, .int .u8 0, .int .u8 0, .int .u8 0, .int .u8 0, .int .u8 0, .int .u8 0, .int .u8 0, .int .u8 0, .int .u8 0, .int .u8 0, .int .u8 0, .int .u8 0, .int .u8 0, .int .u8 0, .int .u8 0, .int .u8 0, .int .u8 0, .int .u8 0, .int .u8 0, .int .u8 0, .int .u8 0, .int .u8 0, .int .u8 0, .int .u8 0, .int .u8 0, .int .u8 0, .int .u8 0, .int .u8 0, .int .u8 0, .int .u8 0, .int .u8 0, .int .u8 0, .int .u8 0, .int .u8 0, .int .u8 0, .int .u8 0, .int .u8 0, .int .u8 0, .int .u8 0, .int .u8 0, .int .u8 0, .int .u8 0, .int .u8 0, .int .u8 0, .int .u8 0]⟩,
   ⟨(.struct [(0, 5), (1, 5)]), 2, 2, [.int .u8 0, .int .u8 0]⟩,
   ⟨(.struct [(0, 5), (1, 5)]), 2, 2, [.int .u8 0, .int .u8 0]⟩,
   ⟨(.arr 16 137), 32, 32, [.int .u8 0, .int .u8 0, .int .u8 0, .int .u8 0, .int .u8 0, .int .u8 0, .int .u8 0, .int .u8 0, .int .u8 0, .int .u8 0, .int .u8 0, .int .u8 0, .int .u8 0, .int .u8 0, .int .u8 0, .int .u8 0, .int .u8 0, .int .u8 0, .int .u8 0, .int .u8 0, .int .u8 0, .int .u8 0, .int .u8 0, .int .u8 0, .int .u8 0, .int .u8 0, .int .u8 0, .int .u8 0, .int .u8 0, .int .u8 0, .int .u8 0, .int .u8 0]⟩,
   ⟨(.arr 32 5), 32, 32, [.int .u8 0, .int .u8 0, .int .u8 0, .int .u8 0, .int .u8 0, .int .u8 0, .int .u8 0, .int .u8 0, .int .u8 0, .int .u8 0, .int .u8 0, .int .u8 0, .int .u8 0, .int .u8 0, .int .u8 0, .int .u8 0, .int .u8 0, .int .u8 0, .int .u8 0, .int .u8 0, .int .u8 0, .int .u8 0, .int .u8 0, .int .u8 0, .int .u8 0, .int .u8 0, .int .u8 0, .int .u8 0, .int .u8 0, .int .u8 0, .int .u8 0, .int .u8 0]⟩,
   ⟨(.arr 64 5), 64, 64, [.int .u8 0, .int .u8 0, .int .u8 0, .int .u8 0, .int .u8 0, .int .u8 0, .int .u8 0, .int .u8 0, .int .u8 0, .int .u8 0, .int .u8 0, .int .u8 0, .int .u8 0, .int .u8 0, .int .u8 0, .int .u8 0, .int .u8 0, .int .u8 0, .int .u8 0, .int .u8 0, .int .u8 0, .int .u8 0, .int .u8 0, .int .u8 0, .int .u8 0, .int .u8 0, .int .u8 0, .int .u8 0, .int .u8 0, .int .u8 0, .int .u8 0, .int .u8 0, .int .u8 0, .int .u8 0, .int .u8 0, .int .u8 0, .int .u8 0, .int .u8 0, .int .u8 0, .int .u8 0, .int .u8 0, .int .u8 0, .int .u8 0, .int .u8 0, .int .u8 0, .int .u8 0, .int .u8 0, .int .u8 0, .int .u8 0, .int .u8 0, .int .u8 0, .int .u8 0, .int .u8 0, .int .u8 0, .int .u8 0, .int .u8 0, .int .u8 0, .int .u8 0, .int .u8 0, .int .u8 0, .int .u8 0, .int .u8 0, .int .u8 0, .int .u8 0]⟩,
   ⟨(.struct [(0, 17), (1, 17), (2, 17), (3, 9)]), 4, 40, [.nilptr, .nilptr, .nilptr, .str []]⟩,
   ⟨(.struct [(0, 17), (1, 17), (2, 17), (3, 9)]), 4, 40, [.nilptr, .nilptr, .nilptr, .str []]⟩,
   ⟨(.arr 0 16), 0, 0, []⟩],
  [⟨(.struct [(0, 143)]), 0, 0, []⟩,
   ⟨(.struct [(0, 143)]), 0, 0, []⟩,
   ⟨.func, 1, 8, [.nilfunc]⟩,
   ⟨(.int .u8), 1, 1, [.int .u8 0]⟩,
   ⟨(.int .u8), 1, 1, [.int .u8 0]⟩,
   ⟨.func, 1, 8, [.nilfunc]⟩,
   ⟨(.int .i32), 1, 4, [.int .i32 0]⟩,
   ⟨(.int .i32), 1, 4, [.int .i32 0]⟩,
   ⟨(.struct [(0, 12), (1, 12), (2, 22), (3, 147), (4, 5), (5, 5), (6, 148), (7, 149), (8, 80), (9, 150), (10, 151)]), 11, 48, [.int .u64 0, .int .u64 0, .int .u32 0, .int .u8 0, .int .u8 0, .int .u8 0, .int .u8 0, .nilfunc, .nilptr, .int .i32 0, .int .i32 0]⟩,
   ⟨(.struct [(0, 12), (1, 12), (2, 22), (3, 147), (4, 5), (5, 5), (6, 148), (7, 149), (8, 80), (9, 150), (10, 151)]), 11, 48, [.int .u64 0, .int .u64 0, .int .u32 0, .int .u8 0, .int .u8 0, .int .u8 0, .int .u8 0, .nilfunc, .nilptr, .int .i32 0, .int .i32 0]⟩]]
def isErr (cs : Array Value) : Prop := ∃ te pe, cs = #[.iface te pe]
def isLen (cs : Array Value) : Prop := ∃ m, cs = #[.int .i64 m]
/-- the tables that the rows list -/
def tabL : List (String × (Array Value → Prop)) := [("internal/strconv.uint64pow10", fun cs => cs = (Lib.pow10Tab.map fun z => Value.int .u64 z).toArray), ("strconv.ErrSyntax", isErr), ("strconv.ErrRange", isErr), ("internal/bytealg.MaxLen", isLen)]
theorem memPow : ("internal/strconv.uint64pow10", fun cs => cs = (Lib.pow10Tab.map fun z => Value.int .u64 z).toArray) ∈ tabL := List.mem_cons_self ..
theorem memSyn : ("strconv.ErrSyntax", isErr) ∈ tabL := .tail _ (List.mem_cons_self ..)
theorem memRng : ("strconv.ErrRange", isErr) ∈ tabL := .tail _ (.tail _ (List.mem_cons_self ..))
theorem memLen : ("internal/bytealg.MaxLen", isLen) ∈ tabL := .tail _ (.tail _ (.tail _ (List.mem_cons_self ..)))
instance instTabs : Tabs := tabsOf Tryd.prog tabL
abbrev T.builder : Nat := 68
abbrev T.byte : Nat := 5
abbrev T.numError : Nat := 86
abbrev T.int : Nat := 3
abbrev T.bool : Nat := 4
abbrev T.uint8 : Nat := 5
abbrev T.string : Nat := 9
abbrev T.uint32 : Nat := 22
abbrev T.Prefix : Nat := 24
abbrev T.Errno : Nat := 28
abbrev T.sl_Prefix : Nat := 39
abbrev T.sl_string : Nat := 46
abbrev T.error : Nat := 56
abbrev T.arr5_int : Nat := 59
abbrev T.sl_uint8 : Nat := 66
abbrev T.uint64 : Nat := 71
abbrev T.sl_int : Nat := 74
abbrev T.arr24_uint8 : Nat := 99
abbrev T.arr20_uint64 : Nat := 124
abbrev T.arr65_uint8 : Nat := 125
abbrev T.arr256_uint8 : Nat := 135
abbrev T.arr32_uint8 : Nat := 139
abbrev T.arr64_uint8 : Nat := 140
abbrev G.internal_bytealg_MaxLen : Nat := 0
abbrev G.strconv_ErrSyntax : Nat := 1
abbrev G.strconv_ErrRange : Nat := 2
abbrev G.internal_strconv_uint64pow10 : Nat := 3
abbrev G.unicode_utf8_first : Nat := 4
abbrev G.unicode_utf8_acceptRanges : Nat := 5
abbrev G.math_bits_deBruijn32tab : Nat := 6
abbrev G.math_bits_deBruijn64tab : Nat := 7
def tabN : Nat := 154
set_option maxRecDepth 100000 in
theorem tabOk : ((List.range 160).map fun t => (tiOf Tryd.prog t).getD ⟨.other, 0, 0, []⟩) = (List.range 160).map (Env.ti { T := TT }) := by kernel_rfl
def EE : Env := { T := TT, eqs := [(23, [.int .u32, .int .i64]), (24, [.int .u32, .int .i64]), (59, [.int .i64, .int .i64, .int .i64, .int .i64, .int .i64]), (124, [.int .u64, .int .u64, .int .u64, .int .u64, .int .u64, .int .u64, .int .u64, .int .u64, .int .u64, .int .u64, .int .u64, .int .u64, .int .u64, .int .u64, .int .u64, .int .u64, .int .u64, .int .u64, .int .u64, .int .u64]), (130, [.str]), (131, [.str]), (136, [.int .u8, .int .u8]), (137, [.int .u8, .int .u8])], typed := [68], byt := [66], uns := [(65, 103, 68)], ne := [81] }
theorem fits : EE.Fits Tryd.prog := Env.fits 160 (by decide) tabOk
theorem unsok : EE.UnsOk Tryd.prog := by
  refine ⟨fun p u T h => ?_, fun fid h => ?_⟩
  · have h : [(65, 103, 68)] = [(p, u, T)] := h
    cases h
    have hi : ∃ j, Tryd.prog.info? 68 = some j ∧ j.size ≠ 0 := by
      have h1 : (Tryd.prog.info? 68).map (fun j => Nat.blt 0 j.size) = some true := by kernel_rfl
      cases hj : Tryd.prog.info? 68 with
      | none => rw [hj] at h1; exact nomatch h1
      | some j => rw [hj] at h1; exact ⟨j, rfl, by have := Nat.le_of_ble_eq_true (Option.some.inj h1); omega⟩
    exact ⟨by kernel_rfl, by kernel_rfl, hi, by kernel_rfl, by kernel_rfl⟩
  · have h : [81].contains fid = true := h
    have h : fid = 81 := by simpa using h
    subst h
    cases hf : Tryd.prog.funcs[81]? with
    | none => exact absurd (show (Tryd.prog.funcs[81]?).isSome = true by kernel_rfl) (by rw [hf]; decide)
    | some fn =>
      have h0 : fn = Tryd.prog.funcs[81]?.getD default := by rw [hf]; rfl
      subst h0
      exact ⟨_, rfl, by kernel_rfl, by kernel_rfl, by kernel_rfl, by kernel_rfl⟩
theorem eqok : EE.EqOk Tryd.prog := Env.eqOk (by kernel_rfl) unsok
theorem step {N : NN} {c : Cfg} {R : Exit → List AV → List VObj → Prop} (h : vrunC EE 500 c (OutHoldsD Tryd.prog N R)) : RunD Tryd.prog N c R := run_stepD fits eqok 500 h
abbrev F.law04_PrefixText : FuncId := 3
theorem K.law04_PrefixText : Known Tryd.prog 3 Tryd.f3 := ⟨by kernel_rfl, by kernel_rfl, by kernel_rfl⟩
abbrev F.law04_PrefixParse : FuncId := 4
theorem K.law04_PrefixParse : Known Tryd.prog 4 Tryd.f4 := ⟨by kernel_rfl, by kernel_rfl, by kernel_rfl⟩
abbrev F.law04_PrefixNested : FuncId := 5
theorem K.law04_PrefixNested : Known Tryd.prog 5 Tryd.f5 := ⟨by kernel_rfl, by kernel_rfl, by kernel_rfl⟩
abbrev F.law04_PrefixSplit : FuncId := 6
theorem K.law04_PrefixSplit : Known Tryd.prog 6 Tryd.f6 := ⟨by kernel_rfl, by kernel_rfl, by kernel_rfl⟩
abbrev F.law04_PrefixContains : FuncId := 7
theorem K.law04_PrefixContains : Known Tryd.prog 7 Tryd.f7 := ⟨by kernel_rfl, by kernel_rfl, by kernel_rfl⟩
abbrev F.law04_PrefixSame : FuncId := 8
theorem K.law04_PrefixSame : Known Tryd.prog 8 Tryd.f8 := ⟨by kernel_rfl, by kernel_rfl, by kernel_rfl⟩
abbrev F.law04_PrefixOrder : FuncId := 9
theorem K.law04_PrefixOrder : Known Tryd.prog 9 Tryd.f9 := ⟨by kernel_rfl, by kernel_rfl, by kernel_rfl⟩
abbrev F.prefix_Text : FuncId := 10
theorem K.prefix_Text : Known Tryd.prog 10 Tryd.f10 := ⟨by kernel_rfl, by kernel_rfl, by kernel_rfl⟩
abbrev F.law04_awake : FuncId := 11
theorem K.law04_awake : Known Tryd.prog 11 Tryd.f11 := ⟨by kernel_rfl, by kernel_rfl, by kernel_rfl⟩
abbrev F.ref04_Text : FuncId := 12
theorem K.ref04_Text : Known Tryd.prog 12 Tryd.f12 := ⟨by kernel_rfl, by kernel_rfl, by kernel_rfl⟩
abbrev F.prefix_Valid : FuncId := 13
theorem K.prefix_Valid : Known Tryd.prog 13 Tryd.f13 := ⟨by kernel_rfl, by kernel_rfl, by kernel_rfl⟩
abbrev F.ref04_Valid : FuncId := 14
theorem K.ref04_Valid : Known Tryd.prog 14 Tryd.f14 := ⟨by kernel_rfl, by kernel_rfl, by kernel_rfl⟩
abbrev F.prefix_Parse : FuncId := 15
theorem K.prefix_Parse : Known Tryd.prog 15 Tryd.f15 := ⟨by kernel_rfl, by kernel_rfl, by kernel_rfl⟩
abbrev F.ref04_Parse : FuncId := 16
theorem K.ref04_Parse : Known Tryd.prog 16 Tryd.f16 := ⟨by kernel_rfl, by kernel_rfl, by kernel_rfl⟩
abbrev F.prefix_Covers : FuncId := 17
theorem K.prefix_Covers : Known Tryd.prog 17 Tryd.f17 := ⟨by kernel_rfl, by kernel_rfl, by kernel_rfl⟩
abbrev F.prefix_Contains : FuncId := 18
theorem K.prefix_Contains : Known Tryd.prog 18 Tryd.f18 := ⟨by kernel_rfl, by kernel_rfl, by kernel_rfl⟩
abbrev F.prefix_Split : FuncId := 19
theorem K.prefix_Split : Known Tryd.prog 19 Tryd.f19 := ⟨by kernel_rfl, by kernel_rfl, by kernel_rfl⟩
abbrev F.ref04_Split : FuncId := 20
theorem K.ref04_Split : Known Tryd.prog 20 Tryd.f20 := ⟨by kernel_rfl, by kernel_rfl, by kernel_rfl⟩
abbrev F.prefix_Parent : FuncId := 21
theorem K.prefix_Parent : Known Tryd.prog 21 Tryd.f21 := ⟨by kernel_rfl, by kernel_rfl, by kernel_rfl⟩
abbrev F.ref04_Parent : FuncId := 22
theorem K.ref04_Parent : Known Tryd.prog 22 Tryd.f22 := ⟨by kernel_rfl, by kernel_rfl, by kernel_rfl⟩
abbrev F.ref04_Contains : FuncId := 23
theorem K.ref04_Contains : Known Tryd.prog 23 Tryd.f23 := ⟨by kernel_rfl, by kernel_rfl, by kernel_rfl⟩
abbrev F.ref04_Covers : FuncId := 24
theorem K.ref04_Covers : Known Tryd.prog 24 Tryd.f24 := ⟨by kernel_rfl, by kernel_rfl, by kernel_rfl⟩
abbrev F.prefix_Compare : FuncId := 25
theorem K.prefix_Compare : Known Tryd.prog 25 Tryd.f25 := ⟨by kernel_rfl, by kernel_rfl, by kernel_rfl⟩
abbrev F.ref04_Compare : FuncId := 26
theorem K.ref04_Compare : Known Tryd.prog 26 Tryd.f26 := ⟨by kernel_rfl, by kernel_rfl, by kernel_rfl⟩
abbrev F.law04_few : FuncId := 27
theorem K.law04_few : Known Tryd.prog 27 Tryd.f27 := ⟨by kernel_rfl, by kernel_rfl, by kernel_rfl⟩
abbrev F.prefix_Aggregate : FuncId := 28
theorem K.prefix_Aggregate : Known Tryd.prog 28 Tryd.f28 := ⟨by kernel_rfl, by kernel_rfl, by kernel_rfl⟩
abbrev F.ref04_Same : FuncId := 29
theorem K.ref04_Same : Known Tryd.prog 29 Tryd.f29 := ⟨by kernel_rfl, by kernel_rfl, by kernel_rfl⟩
abbrev F.strconv_Itoa : FuncId := 30
theorem K.strconv_Itoa : Known Tryd.prog 30 Tryd.f30 := ⟨by kernel_rfl, by kernel_rfl, by kernel_rfl⟩
abbrev F.strings_Join : FuncId := 31
theorem K.strings_Join : Known Tryd.prog 31 Tryd.f31 := ⟨by kernel_rfl, by kernel_rfl, by kernel_rfl⟩
abbrev F.ref04_number : FuncId := 32
theorem K.ref04_number : Known Tryd.prog 32 Tryd.f32 := ⟨by kernel_rfl, by kernel_rfl, by kernel_rfl⟩
abbrev F.prefix_mask : FuncId := 33
theorem K.prefix_mask : Known Tryd.prog 33 Tryd.f33 := ⟨by kernel_rfl, by kernel_rfl, by kernel_rfl⟩
abbrev F.ref04_mask : FuncId := 34
theorem K.ref04_mask : Known Tryd.prog 34 Tryd.f34 := ⟨by kernel_rfl, by kernel_rfl, by kernel_rfl⟩
abbrev F.strings_Cut : FuncId := 35
theorem K.strings_Cut : Known Tryd.prog 35 Tryd.f35 := ⟨by kernel_rfl, by kernel_rfl, by kernel_rfl⟩
abbrev F.strings_Split : FuncId := 36
theorem K.strings_Split : Known Tryd.prog 36 Tryd.f36 := ⟨by kernel_rfl, by kernel_rfl, by kernel_rfl⟩
abbrev F.strconv_Atoi : FuncId := 37
theorem K.strconv_Atoi : Known Tryd.prog 37 Tryd.f37 := ⟨by kernel_rfl, by kernel_rfl, by kernel_rfl⟩
abbrev F.cmp_Or_int : FuncId := 38
theorem K.cmp_Or_int : Known Tryd.prog 38 Tryd.f38 := ⟨by kernel_rfl, by kernel_rfl, by kernel_rfl⟩
abbrev F.cmp_Compare_uint32 : FuncId := 39
theorem K.cmp_Compare_uint32 : Known Tryd.prog 39 Tryd.f39 := ⟨by kernel_rfl, by kernel_rfl, by kernel_rfl⟩
abbrev F.cmp_Compare_int : FuncId := 40
theorem K.cmp_Compare_int : Known Tryd.prog 40 Tryd.f40 := ⟨by kernel_rfl, by kernel_rfl, by kernel_rfl⟩
abbrev F.slices_Clone_Prefix : FuncId := 41
theorem K.slices_Clone_Prefix : Known Tryd.prog 41 Tryd.f41 := ⟨by kernel_rfl, by kernel_rfl, by kernel_rfl⟩
abbrev F.slices_SortFunc_Prefix : FuncId := 42
theorem K.slices_SortFunc_Prefix : Known Tryd.prog 42 Tryd.f42 := ⟨by kernel_rfl, by kernel_rfl, by kernel_rfl⟩
abbrev F.internal_strconv_Itoa : FuncId := 43
theorem K.internal_strconv_Itoa : Known Tryd.prog 43 Tryd.f43 := ⟨by kernel_rfl, by kernel_rfl, by kernel_rfl⟩
abbrev F.strings_Builder_Grow : FuncId := 44
theorem K.strings_Builder_Grow : Known Tryd.prog 44 Tryd.f44 := ⟨by kernel_rfl, by kernel_rfl, by kernel_rfl⟩
abbrev F.strings_Builder_WriteString : FuncId := 45
theorem K.strings_Builder_WriteString : Known Tryd.prog 45 Tryd.f45 := ⟨by kernel_rfl, by kernel_rfl, by kernel_rfl⟩
abbrev F.strings_Builder_String : FuncId := 46
theorem K.strings_Builder_String : Known Tryd.prog 46 Tryd.f46 := ⟨by kernel_rfl, by kernel_rfl, by kernel_rfl⟩
abbrev F.strings_genSplit : FuncId := 48
theorem K.strings_genSplit : Known Tryd.prog 48 Tryd.f48 := ⟨by kernel_rfl, by kernel_rfl, by kernel_rfl⟩
abbrev F.internal_strconv_Atoi : FuncId := 49
theorem K.internal_strconv_Atoi : Known Tryd.prog 49 Tryd.f49 := ⟨by kernel_rfl, by kernel_rfl, by kernel_rfl⟩
abbrev F.strconv_toError : FuncId := 50
theorem K.strconv_toError : Known Tryd.prog 50 Tryd.f50 := ⟨by kernel_rfl, by kernel_rfl, by kernel_rfl⟩
abbrev F.cmp_isNaN_uint32 : FuncId := 51
theorem K.cmp_isNaN_uint32 : Known Tryd.prog 51 Tryd.f51 := ⟨by kernel_rfl, by kernel_rfl, by kernel_rfl⟩
abbrev F.cmp_isNaN_int : FuncId := 52
theorem K.cmp_isNaN_int : Known Tryd.prog 52 Tryd.f52 := ⟨by kernel_rfl, by kernel_rfl, by kernel_rfl⟩
abbrev F.slices_pdqsortCmpFunc_api_Prefix : FuncId := 53
theorem K.slices_pdqsortCmpFunc_api_Prefix : Known Tryd.prog 53 Tryd.f53 := ⟨by kernel_rfl, by kernel_rfl, by kernel_rfl⟩
abbrev F.math_bits_Len : FuncId := 54
theorem K.math_bits_Len : Known Tryd.prog 54 Tryd.f54 := ⟨by kernel_rfl, by kernel_rfl, by kernel_rfl⟩
abbrev F.internal_strconv_FormatInt : FuncId := 55
theorem K.internal_strconv_FormatInt : Known Tryd.prog 55 Tryd.f55 := ⟨by kernel_rfl, by kernel_rfl, by kernel_rfl⟩
abbrev F.strings_Builder_copyCheck : FuncId := 56
theorem K.strings_Builder_copyCheck : Known Tryd.prog 56 Tryd.f56 := ⟨by kernel_rfl, by kernel_rfl, by kernel_rfl⟩
abbrev F.strings_Builder_grow : FuncId := 57
theorem K.strings_Builder_grow : Known Tryd.prog 57 Tryd.f57 := ⟨by kernel_rfl, by kernel_rfl, by kernel_rfl⟩
abbrev F.strings_explode : FuncId := 59
theorem K.strings_explode : Known Tryd.prog 59 Tryd.f59 := ⟨by kernel_rfl, by kernel_rfl, by kernel_rfl⟩
abbrev F.strings_Count : FuncId := 60
theorem K.strings_Count : Known Tryd.prog 60 Tryd.f60 := ⟨by kernel_rfl, by kernel_rfl, by kernel_rfl⟩
abbrev F.strings_Index : FuncId := 61
theorem K.strings_Index : Known Tryd.prog 61 Tryd.f61 := ⟨by kernel_rfl, by kernel_rfl, by kernel_rfl⟩
abbrev F.internal_strconv_ParseInt : FuncId := 62
theorem K.internal_strconv_ParseInt : Known Tryd.prog 62 Tryd.f62 := ⟨by kernel_rfl, by kernel_rfl, by kernel_rfl⟩
abbrev F.strconv_syntaxError : FuncId := 63
theorem K.strconv_syntaxError : Known Tryd.prog 63 Tryd.f63 := ⟨by kernel_rfl, by kernel_rfl, by kernel_rfl⟩
abbrev F.strconv_rangeError : FuncId := 64
theorem K.strconv_rangeError : Known Tryd.prog 64 Tryd.f64 := ⟨by kernel_rfl, by kernel_rfl, by kernel_rfl⟩
abbrev F.strconv_baseError : FuncId := 65
theorem K.strconv_baseError : Known Tryd.prog 65 Tryd.f65 := ⟨by kernel_rfl, by kernel_rfl, by kernel_rfl⟩
abbrev F.strconv_bitSizeError : FuncId := 66
theorem K.strconv_bitSizeError : Known Tryd.prog 66 Tryd.f66 := ⟨by kernel_rfl, by kernel_rfl, by kernel_rfl⟩
abbrev F.slices_insertionSortCmpFunc_api_Prefix : FuncId := 67
theorem K.slices_insertionSortCmpFunc_api_Prefix : Known Tryd.prog 67 Tryd.f67 := ⟨by kernel_rfl, by kernel_rfl, by kernel_rfl⟩
abbrev F.slices_heapSortCmpFunc_api_Prefix : FuncId := 68
theorem K.slices_heapSortCmpFunc_api_Prefix : Known Tryd.prog 68 Tryd.f68 := ⟨by kernel_rfl, by kernel_rfl, by kernel_rfl⟩
abbrev F.slices_breakPatternsCmpFunc_api_Prefix : FuncId := 69
theorem K.slices_breakPatternsCmpFunc_api_Prefix : Known Tryd.prog 69 Tryd.f69 := ⟨by kernel_rfl, by kernel_rfl, by kernel_rfl⟩
abbrev F.slices_choosePivotCmpFunc_api_Prefix : FuncId := 70
theorem K.slices_choosePivotCmpFunc_api_Prefix : Known Tryd.prog 70 Tryd.f70 := ⟨by kernel_rfl, by kernel_rfl, by kernel_rfl⟩
abbrev F.slices_reverseRangeCmpFunc_api_Prefix : FuncId := 71
theorem K.slices_reverseRangeCmpFunc_api_Prefix : Known Tryd.prog 71 Tryd.f71 := ⟨by kernel_rfl, by kernel_rfl, by kernel_rfl⟩
abbrev F.slices_partialInsertionSortCmpFunc_api_Prefix : FuncId := 72
theorem K.slices_partialInsertionSortCmpFunc_api_Prefix : Known Tryd.prog 72 Tryd.f72 := ⟨by kernel_rfl, by kernel_rfl, by kernel_rfl⟩
abbrev F.slices_partitionEqualCmpFunc_api_Prefix : FuncId := 73
theorem K.slices_partitionEqualCmpFunc_api_Prefix : Known Tryd.prog 73 Tryd.f73 := ⟨by kernel_rfl, by kernel_rfl, by kernel_rfl⟩
abbrev F.slices_partitionCmpFunc_api_Prefix : FuncId := 74
theorem K.slices_partitionCmpFunc_api_Prefix : Known Tryd.prog 74 Tryd.f74 := ⟨by kernel_rfl, by kernel_rfl, by kernel_rfl⟩
abbrev F.math_bits_Len32 : FuncId := 75
theorem K.math_bits_Len32 : Known Tryd.prog 75 Tryd.f75 := ⟨by kernel_rfl, by kernel_rfl, by kernel_rfl⟩
abbrev F.math_bits_Len64 : FuncId := 76
theorem K.math_bits_Len64 : Known Tryd.prog 76 Tryd.f76 := ⟨by kernel_rfl, by kernel_rfl, by kernel_rfl⟩
abbrev F.internal_strconv_small : FuncId := 77
theorem K.internal_strconv_small : Known Tryd.prog 77 Tryd.f77 := ⟨by kernel_rfl, by kernel_rfl, by kernel_rfl⟩
abbrev F.internal_strconv_numDigits : FuncId := 78
theorem K.internal_strconv_numDigits : Known Tryd.prog 78 Tryd.f78 := ⟨by kernel_rfl, by kernel_rfl, by kernel_rfl⟩
abbrev F.internal_strconv_formatBase10 : FuncId := 79
theorem K.internal_strconv_formatBase10 : Known Tryd.prog 79 Tryd.f79 := ⟨by kernel_rfl, by kernel_rfl, by kernel_rfl⟩
abbrev F.internal_strconv_formatBits : FuncId := 80
theorem K.internal_strconv_formatBits : Known Tryd.prog 80 Tryd.f80 := ⟨by kernel_rfl, by kernel_rfl, by kernel_rfl⟩
abbrev F.unicode_utf8_RuneCountInString : FuncId := 87
theorem K.unicode_utf8_RuneCountInString : Known Tryd.prog 87 Tryd.f87 := ⟨by kernel_rfl, by kernel_rfl, by kernel_rfl⟩
abbrev F.unicode_utf8_DecodeRuneInString : FuncId := 88
theorem K.unicode_utf8_DecodeRuneInString : Known Tryd.prog 88 Tryd.f88 := ⟨by kernel_rfl, by kernel_rfl, by kernel_rfl⟩
abbrev F.internal_strconv_ParseUint : FuncId := 90
theorem K.internal_strconv_ParseUint : Known Tryd.prog 90 Tryd.f90 := ⟨by kernel_rfl, by kernel_rfl, by kernel_rfl⟩
abbrev F.errors_New : FuncId := 92
theorem K.errors_New : Known Tryd.prog 92 Tryd.f92 := ⟨by kernel_rfl, by kernel_rfl, by kernel_rfl⟩
abbrev F.slices_siftDownCmpFunc_api_Prefix : FuncId := 93
theorem K.slices_siftDownCmpFunc_api_Prefix : Known Tryd.prog 93 Tryd.f93 := ⟨by kernel_rfl, by kernel_rfl, by kernel_rfl⟩
abbrev F.slices_nextPowerOfTwo : FuncId := 94
theorem K.slices_nextPowerOfTwo : Known Tryd.prog 94 Tryd.f94 := ⟨by kernel_rfl, by kernel_rfl, by kernel_rfl⟩
abbrev F.slices_xorshift_Next : FuncId := 95
theorem K.slices_xorshift_Next : Known Tryd.prog 95 Tryd.f95 := ⟨by kernel_rfl, by kernel_rfl, by kernel_rfl⟩
abbrev F.slices_medianAdjacentCmpFunc_api_Prefix : FuncId := 96
theorem K.slices_medianAdjacentCmpFunc_api_Prefix : Known Tryd.prog 96 Tryd.f96 := ⟨by kernel_rfl, by kernel_rfl, by kernel_rfl⟩
abbrev F.slices_medianCmpFunc_api_Prefix : FuncId := 97
theorem K.slices_medianCmpFunc_api_Prefix : Known Tryd.prog 97 Tryd.f97 := ⟨by kernel_rfl, by kernel_rfl, by kernel_rfl⟩
abbrev F.internal_strconv_log10Pow2 : FuncId := 98
theorem K.internal_strconv_log10Pow2 : Known Tryd.prog 98 Tryd.f98 := ⟨by kernel_rfl, by kernel_rfl, by kernel_rfl⟩
abbrev F.internal_strconv_bool2_int : FuncId := 99
theorem K.internal_strconv_bool2_int : Known Tryd.prog 99 Tryd.f99 := ⟨by kernel_rfl, by kernel_rfl, by kernel_rfl⟩
abbrev F.internal_strconv_isPowerOfTwo : FuncId := 100
theorem K.internal_strconv_isPowerOfTwo : Known Tryd.prog 100 Tryd.f100 := ⟨by kernel_rfl, by kernel_rfl, by kernel_rfl⟩
abbrev F.math_bits_TrailingZeros : FuncId := 101
theorem K.math_bits_TrailingZeros : Known Tryd.prog 101 Tryd.f101 := ⟨by kernel_rfl, by kernel_rfl, by kernel_rfl⟩
abbrev F.unicode_utf8_decodeRuneInStringSlow : FuncId := 104
theorem K.unicode_utf8_decodeRuneInStringSlow : Known Tryd.prog 104 Tryd.f104 := ⟨by kernel_rfl, by kernel_rfl, by kernel_rfl⟩
abbrev F.internal_strconv_lower : FuncId := 105
theorem K.internal_strconv_lower : Known Tryd.prog 105 Tryd.f105 := ⟨by kernel_rfl, by kernel_rfl, by kernel_rfl⟩
abbrev F.internal_strconv_underscoreOK : FuncId := 106
theorem K.internal_strconv_underscoreOK : Known Tryd.prog 106 Tryd.f106 := ⟨by kernel_rfl, by kernel_rfl, by kernel_rfl⟩
abbrev F.slices_order2CmpFunc_api_Prefix : FuncId := 107
theorem K.slices_order2CmpFunc_api_Prefix : Known Tryd.prog 107 Tryd.f107 := ⟨by kernel_rfl, by kernel_rfl, by kernel_rfl⟩
abbrev F.math_bits_TrailingZeros32 : FuncId := 108
theorem K.math_bits_TrailingZeros32 : Known Tryd.prog 108 Tryd.f108 := ⟨by kernel_rfl, by kernel_rfl, by kernel_rfl⟩
abbrev F.math_bits_TrailingZeros64 : FuncId := 109
theorem K.math_bits_TrailingZeros64 : Known Tryd.prog 109 Tryd.f109 := ⟨by kernel_rfl, by kernel_rfl, by kernel_rfl⟩
abbrev F.gosem_cut_vars : FuncId := 139
theorem K.gosem_cut_vars : Known Tryd.prog 139 Tryd.f139 := ⟨by kernel_rfl, by kernel_rfl, by kernel_rfl⟩
end Go.Proofs.YtllpenkgaomdfaaDoor.Vm
/- Rows of tied cards, for any number of arguments. -/
set_option linter.all false
namespace Go.Proofs.YtllpenkgaomdfaaDoor.Vm
open Go Go.ChangeShapes Go.WideShapes Go.ChangeAt Go.RowKit
set_option maxRecDepth 100000
theorem ownKn : ownKnob Tryd.prog.godebug = none := by kernel_rfl
theorem laid : laidOutB Tryd.prog = true := by kernel_rfl
abbrev Rd (t : TypeId) : Prop := Tryd.prog.readableRec t = true ∧ t < Tryd.prog.types.size
/-- an argument, as it is handed in -/
def ArgP (t : TypeId) (Q : AV → Prop) : Prop :=
  ∀ (H : Type) (eh : TypeId × Value → H) (W : World) (base : Nat) (v : Value) (d : DataW H) (p : List MemPlace), Value.okWide Tryd.prog W .any base t v → DataW.Trod eh Tryd.prog W 0 (fun _ => true) true t v d p → (∀ n ∈ DataW.weights Tryd.prog t d, n ≤ reachBytes) →
    ∃ a, Rel (stG (oldS W)) W a v ∧ Q a
def Fits2 : List (TypeId × (AV → Prop)) → List AV → Prop
  | [], [] => True
  | x :: l, a :: ys => x.2 a ∧ Fits2 l ys
  | _, _ => False
theorem args_open {H : Type} {eh : TypeId × Value → H} {W : World} {base : Nat} : ∀ (l : List (TypeId × (AV → Prop))) (vs : List Value) (ds : List (DataW H)) (p : List MemPlace), (∀ x ∈ l, ArgP x.1 x.2) →
    DataW.TrodAll eh Tryd.prog W 0 (fun _ => true) true (l.map (·.1)) vs ds p → (∀ (j : Nat) t v, (l.map (·.1))[j]? = some t → vs[j]? = some v → Value.okWide Tryd.prog W .any base t v) →
    (∀ (j : Nat) t d, (l.map (·.1))[j]? = some t → ds[j]? = some d → ∀ n ∈ DataW.weights Tryd.prog t d, n ≤ reachBytes) →
    ∃ ys : List AV, Fits2 l ys ∧ ys.length = vs.length ∧ ds.length = l.length ∧ ∀ (i : Nat) (a : AV) (v : Value), ys[i]? = some a → vs[i]? = some v → Rel (stG (oldS W)) W a v := by
  intro l
  induction l with
  | nil =>
    intro vs ds p _ hA _ _
    obtain ⟨rfl, rfl, rfl⟩ := trodAll_nil hA
    exact ⟨[], trivial, rfl, rfl, fun i a v h => by simp at h⟩
  | cons x l ih =>
    intro vs ds p hq hA hv hw
    obtain ⟨v0, vs0, d0, ds0, p0, q0, rfl, rfl, rfl, h0, r0⟩ := trodAll_cons hA
    obtain ⟨ys, k1, k2, k3, k4⟩ := ih vs0 ds0 q0 (fun y hy => hq y (List.mem_cons_of_mem _ hy)) r0 (fun j t v ht hv' => hv (j + 1) t v (by simpa using ht) (by simpa using hv')) (fun j t d ht hd => hw (j + 1) t d (by simpa using ht) (by simpa using hd))
    obtain ⟨a, ha, hqa⟩ := hq x (List.mem_cons_self ..) H eh W base v0 d0 p0 (hv 0 _ _ rfl rfl) h0 (hw 0 _ _ rfl rfl)
    refine ⟨a :: ys, ⟨hqa, k1⟩, by simp [k2], by simp [k3], fun i b v hb hv' => ?_⟩
    cases i with
    | zero => cases hb; cases hv'; exact ha
    | succ i => exact k4 i b v hb hv'

theorem rowAll {fn : Func} {fid : FuncId} {s : ChangeSpec} {tb : TypeId} (l : List (TypeId × (AV → Prop))) (hQ : ∀ x ∈ l, ArgP x.1 x.2) (hp : ∀ ys, Fits2 l ys → PureCall Tryd.prog fid ys (.bool true)) (hpar : fn.params.toList = l.map (·.1)) (hrd : ∀ t ∈ fn.params.toList, Rd t) (hvars : s.vars = [])
    (hspec : ∀ (H : Type) (ds : List (DataW H)), ds.length = l.length → s.fn H ds = { results := [.lit (.bool true)], args := ds }) (hrt : fn.resultTypes = #[tb]) (hb : Tryd.prog.underlying tb = some .bool)
    (H : Type) (eh : TypeId × Value → H) (W : World) (base : Nat) (args : Array Value) (ds gs : List (DataW H)) (before : List MemPlace) (htab : Tabs.ok (oldS W) W)
    (hval : ∀ (j : Nat) t v, fn.params[j]? = some t → args[j]? = some v → Value.okWide Tryd.prog W .any base t v)
    (hW : DataW.Whole eh Tryd.prog fn.params.toList s.vars false W args.toList ds gs before)
    (hsz : (DataW.weightsEach Tryd.prog (fn.params.toList ++ s.plain.varTypes Tryd.prog) (ds ++ gs)).all (· ≤ reachBytes) = true) :
    Calls Tryd.prog fid args W fun e W' => ∃ v, e = .returned v ∧ s.post eh Tryd.prog fn false true false false W args v W' := by
  have hW' := hW
  obtain ⟨p, q, hA, hV, hps, hfz, hnd⟩ := hW
  have hwe : ∀ (j : Nat) (t : TypeId) (d : DataW H), fn.params.toList[j]? = some t → ds[j]? = some d → ∀ n ∈ DataW.weights Tryd.prog t d, n ≤ reachBytes := fun j t d ht hd n hn => by
    have := List.all_eq_true.1 hsz n (DataW.weights_mem_each (j := j) (by rw [List.getElem?_append_left (List.getElem?_eq_some_iff.1 ht).1]; exact ht) (by rw [List.getElem?_append_left (List.getElem?_eq_some_iff.1 hd).1]; exact hd) n hn)
    simpa using this
  rw [hvars] at hV
  obtain ⟨rfl, rfl⟩ := trodVars_none hV
  obtain ⟨ys, k1, k2, k3, k4⟩ := args_open (base := base) l args.toList ds p hQ (by rw [← hpar]; exact hA) (fun j t v ht hv => hval j t v (by rw [← hpar] at ht; simpa using ht) (by simpa using hv)) (fun j t d ht hd => hwe j t d (by rw [hpar]; exact ht) hd)
  refine (law_calls htab (hp ys k1) (by simpa using k2) (fun i a v ha hv => k4 i a v ha (by simpa using hv))).mono fun e W' ⟨he, g, g', hE⟩ => ?_
  subst he
  have hs := hspec H ds k3
  exact ⟨_, rfl, law_post (tb := tb) laid hrd hvars (by rw [List.append_nil, hs]) (by rw [List.append_nil, hs]) (by rw [List.append_nil, hs]) hrt hb hW' hE⟩
end Go.Proofs.YtllpenkgaomdfaaDoor.Vm
/- The values that the statements speak of, as plain data, and their cells. -/
set_option linter.all false
namespace Go.Proofs.YtllpenkgaomdfaaDoor.Vm
open Go

/-- a whole number of 64 bits -/
def i64 (n : Int) : Prop := -9223372036854775808 ≤ n ∧ n ≤ 9223372036854775807
theorem wrap_in {n : Int} (h : -9223372036854775808 ≤ n ∧ n ≤ 9223372036854775807) : IntKind.i64.wrap n = n := by rw [IntKind.wrap_i64]; omega
abbrev ai (n : Int) : AV := .int .i64 n
abbrev asl (es : List (List AV)) : AV := .sl none false es

structure Link where
  a : Int
  b : Int
  c0 : Int
  c1 : Int
  cap : Int
  delay : Int
  group : Int
  deriving DecidableEq, Inhabited
def Link.enc (l : Link) : List AV := [ai l.a, ai l.b, ai l.c0, ai l.c1, ai l.cap, ai l.delay, ai l.group]
structure Topology where
  nodes : Int
  overload : List Bool
  links : List Link
  deriving DecidableEq, Inhabited
def eBool (b : Bool) : List AV := [.bool b]
def eInt (n : Int) : List AV := [ai n]
def Topology.enc (t : Topology) : List AV := [ai t.nodes, asl (t.overload.map eBool), asl (t.links.map Link.enc)]
structure Segment where
  kind : Int
  num : Int
  deriving DecidableEq, Inhabited
def Segment.enc (s : Segment) : List AV := [ai s.kind, ai s.num]
structure Policy where
  node : Int
  binding : Int
  list : List Segment
  deriving DecidableEq, Inhabited
def Policy.enc (p : Policy) : List AV := [ai p.node, ai p.binding, asl (p.list.map Segment.enc)]
structure Query where
  t : Topology
  policies : List Policy
  node : Int
  list : List Segment
  deriving DecidableEq, Inhabited
def Query.enc (q : Query) : List AV := q.t.enc ++ [asl (q.policies.map Policy.enc), ai q.node, asl (q.list.map Segment.enc)]

/-- a number of a list's element -/
theorem idx_nat {α : Type} {enc : α → List AV} {xs : List α} {i : Nat} {n : Nat} {R : List AV → Prop} (hi : i < xs.length) (hl : (enc xs[i]).length = n) (h : R (enc xs[i])) :
    True ∧ 0 ≤ (i : Int) ∧ ∃ c, (xs.map enc)[(i : Int).toNat]? = some c ∧ c.length = n ∧ R c :=
  ⟨trivial, by omega, _, by simp [hi], hl, h⟩
theorem idx_int {α : Type} {enc : α → List AV} {xs : List α} {i : Int} {j : Nat} {n : Nat} {R : List AV → Prop} (hij : i = (j : Int)) (hi : j < xs.length) (hl : (enc xs[j]).length = n) (h : R (enc xs[j])) :
    True ∧ 0 ≤ i ∧ ∃ c, (xs.map enc)[i.toNat]? = some c ∧ c.length = n ∧ R c := by
  subst hij; exact idx_nat hi hl h

theorem all_take_succ {α : Type} {p : α → Bool} {l : List α} {i : Nat} (hi : i < l.length) (h : ∀ x ∈ l.take i, p x = true) (hp : p l[i] = true) : ∀ x ∈ l.take (i + 1), p x = true := by
  intro x hx
  rw [List.take_succ_eq_append_getElem hi, List.mem_append] at hx
  rcases hx with hx | hx
  · exact h x hx
  · simp at hx; subst hx; exact hp
theorem all_false {α : Type} {p : α → Bool} {l : List α} {i : Nat} (hi : i < l.length) (hp : p l[i] = false) : l.all p = false := by
  rw [List.all_eq_false]; exact ⟨l[i], List.getElem_mem hi, by simp [hp]⟩
theorem all_true {α : Type} {p : α → Bool} {l : List α} {i : Nat} (hi : l.length ≤ i) (h : ∀ x ∈ l.take i, p x = true) : l.all p = true := by
  rw [List.take_of_length_le hi] at h; exact List.all_eq_true.2 h

theorem wrap_succ {i : Nat} (h : i < 4611686018427387904) : IntKind.i64.wrap ((i : Int) + 1) = ((i + 1 : Nat) : Int) := by rw [IntKind.wrap_i64]; omega

/- Maps with pairs of numbers as keys. -/
def eKey (k : Int × Int) : AV := .agg [ai k.1, ai k.2]
abbrev ks2 : Bool × List LK := (true, [.int .i64, .int .i64])
def eMap {β : Type} (f : β → AV) (l : List ((Int × Int) × β)) : List (AV × AV) := l.map fun p => (eKey p.1, f p.2)
theorem eqKey2 (k k' : Int × Int) : eqKey ks2 (eKey k) (eKey k') = some (decide (k = k')) := by
  show some (decide (k.1 = k'.1) && (decide (k.2 = k'.2) && true)) = _
  obtain ⟨a, b⟩ := k
  obtain ⟨c, d⟩ := k'
  simp [Bool.decide_and]
theorem hasKs2 {β : Type} (k : Int × Int) (f : β → AV) (l : List ((Int × Int) × β)) : hasKs ks2 (eKey k) (eMap f l) := by
  refine ⟨by rw [eqKey2]; rfl, fun e he => ?_⟩
  obtain ⟨x, _, rfl⟩ := List.mem_map.1 he
  rw [eqKey2]; rfl
theorem findK2 {β : Type} (k : Int × Int) (f : β → AV) (l : List ((Int × Int) × β)) : findK ks2 (eKey k) (eMap f l) = (l.lookup k).map f := by
  induction l with
  | nil => rfl
  | cons p l ih =>
    obtain ⟨k', v⟩ := p
    show (match eqKey ks2 (eKey k) (eKey k') with | some true => some (f v) | _ => findK ks2 (eKey k) (eMap f l)) = _
    rw [eqKey2, List.lookup_cons]
    by_cases h : k = k'
    · subst h; simp
    · have : (k == k') = false := by simp [h]
      simp only [h, decide_false, this]
      exact ih
theorem look2 {β : Type} (k : Int × Int) (f : β → AV) (l : List ((Int × Int) × β)) {R : Option AV → Prop} (h0 : l.lookup k = none → R none) (h1 : ∀ b, l.lookup k = some b → R (some (f b))) :
    hasKs ks2 (eKey k) (eMap f l) ∧ ∃ q, findK ks2 (eKey k) (eMap f l) = q ∧ R q := by
  refine ⟨hasKs2 k f l, _, findK2 k f l, ?_⟩
  cases h : l.lookup k with
  | none => exact h0 h
  | some b => exact h1 b h
theorem putM2 {β : Type} (k : Int × Int) (f : β → AV) (v : β) (l : List ((Int × Int) × β)) (h : l.lookup k = none) : putM ks2 (eKey k) (f v) (eMap f l) = eMap f (l ++ [(k, v)]) := by
  induction l with
  | nil => rfl
  | cons p l ih =>
    obtain ⟨k', v'⟩ := p
    rw [List.lookup_cons] at h
    have hk : ¬ k = k' := fun e => by subst e; simp at h
    have hb : (k == k') = false := by simp [hk]
    rw [hb] at h
    show (match eqKey ks2 (eKey k) (eKey k') with | some true => (eKey k, f v) :: eMap f l | _ => (eKey k', f v') :: putM ks2 (eKey k) (f v) (eMap f l)) = _
    rw [eqKey2]
    simp only [hk, decide_false]
    rw [ih h]; rfl
theorem delM2 {β : Type} (k : Int × Int) (f : β → AV) (v : β) (l : List ((Int × Int) × β)) (h : l.lookup k = none) : delM ks2 (eKey k) (eMap f (l ++ [(k, v)])) = eMap f l := by
  induction l with
  | nil =>
    show (match eqKey ks2 (eKey k) (eKey k) with | some true => [] | _ => _) = _
    rw [eqKey2]; simp; rfl
  | cons p l ih =>
    obtain ⟨k', v'⟩ := p
    rw [List.lookup_cons] at h
    have hk : ¬ k = k' := fun e => by subst e; simp at h
    have hb : (k == k') = false := by simp [hk]
    rw [hb] at h
    show (match eqKey ks2 (eKey k) (eKey k') with | some true => eMap f (l ++ [(k, v)]) | _ => (eKey k', f v') :: delM ks2 (eKey k) (eMap f (l ++ [(k, v)]))) = _
    rw [eqKey2]
    simp only [hk, decide_false]
    rw [ih h]; rfl
theorem lookup_none {β : Type} {k : Int × Int} {l : List ((Int × Int) × β)} : l.lookup k = none ↔ k ∉ l.map (·.1) := by
  induction l with
  | nil => simp
  | cons p l ih =>
    obtain ⟨k', v⟩ := p
    rw [List.lookup_cons]
    by_cases h : k = k'
    · subst h; simp
    · have : (k == k') = false := by simp [h]
      rw [this]; simp [ih, h]

end Go.Proofs.YtllpenkgaomdfaaDoor.Vm
/- Contracts: topology. -/
set_option linter.all false
namespace Go.Proofs.YtllpenkgaomdfaaDoor.Vm
open Go
set_option maxRecDepth 100000

def Link.proper (l : Link) (n : Int) : Bool := decide (0 ≤ l.a) && decide (l.a ≤ IntKind.i64.wrap (n - 1)) && (decide (0 ≤ l.b) && decide (l.b ≤ IntKind.i64.wrap (n - 1))) && !decide (l.a = l.b) &&
  (decide (1 ≤ l.c0) && decide (l.c0 ≤ 65535)) && (decide (1 ≤ l.c1) && decide (l.c1 ≤ 65535)) && (decide (0 ≤ l.cap) && decide (l.cap ≤ 1048576)) && (decide (1 ≤ l.delay) && decide (l.delay ≤ 65536)) && (decide (0 ≤ l.group) && decide (l.group ≤ 64))
def Topology.valid (t : Topology) : Bool := decide (1 ≤ t.nodes) && decide (t.nodes ≤ 64) && (decide (t.overload.length = 0) || decide ((t.overload.length : Int) = t.nodes)) && decide (t.links.length ≤ 256) && t.links.all fun l => l.proper t.nodes

end Go.Proofs.YtllpenkgaomdfaaDoor.Vm
/- Contracts: arcs of a topology; segments. -/
set_option linter.all false
namespace Go.Proofs.YtllpenkgaomdfaaDoor.Vm
open Go
set_option maxRecDepth 100000

theorem valid_links {t : Topology} (h : t.valid = true) : t.links.length ≤ 256 := by simp [Topology.valid] at h; omega
theorem valid_nodes {t : Topology} (h : t.valid = true) : 1 ≤ t.nodes ∧ t.nodes ≤ 64 := by simp [Topology.valid] at h; omega

def Topology.arcs (t : Topology) : Int := if t.valid then 2 * t.links.length else 0
def Topology.at_ (t : Topology) (a : Int) : Link := t.links.getD (a / 2).toNat default
def Topology.tail (t : Topology) (a : Int) : Int := if a < 0 ∨ t.arcs ≤ a then -1 else if a % 2 = 0 then (t.at_ a).a else (t.at_ a).b
def Topology.head (t : Topology) (a : Int) : Int := if a < 0 ∨ t.arcs ≤ a then -1 else if a % 2 = 0 then (t.at_ a).b else (t.at_ a).a
def Topology.cost (t : Topology) (a : Int) : Int := if a < 0 ∨ t.arcs ≤ a then -1 else if a % 2 = 0 then (t.at_ a).c0 else (t.at_ a).c1

theorem arcs_le {t : Topology} {a : Int} (h0 : ¬ a < 0) (h : ¬ t.arcs ≤ a) : (a / 2).toNat < t.links.length ∧ t.links.length ≤ 256 ∧ t.valid = true ∧ t.arcs = 2 * t.links.length := by
  unfold Topology.arcs at h ⊢
  split at h
  · rename_i hv; have := valid_links hv; exact ⟨by omega, this, hv, by simp [hv]⟩
  · omega
theorem at_get {t : Topology} {a : Int} (h : (a / 2).toNat < t.links.length) : t.links[(a / 2).toNat] = t.at_ a := by simp [Topology.at_, h]

/-- an index that is half an arc -/
theorem half {a : Int} (h0 : ¬ a < 0) (h : a ≤ 9223372036854775807) : IntKind.i64.wrap (a.tdiv 2) = ((a / 2).toNat : Int) := by
  rw [Int.tdiv_eq_ediv_of_nonneg (by omega), wrap_in (by omega)]; omega
theorem tmod2 {a : Int} (h0 : ¬ a < 0) : a.tmod 2 = a % 2 := Int.tmod_eq_emod_of_nonneg (by omega)

/-- a segment in a topology -/
def Segment.valid (t : Topology) (s : Segment) : Bool :=
  if t.valid = false ∨ s.num < 0 then false else if s.kind = 1 then decide (s.num < t.nodes) else if s.kind = 2 then decide (s.num < t.arcs) else if s.kind = 3 then decide (1 ≤ s.num) && decide (s.num ≤ 64) else decide (s.kind = 4) && decide (s.num ≤ 65535)
theorem arcs_valid {t : Topology} (h : t.valid = true) : t.arcs = 2 * t.links.length := by simp [Topology.arcs, h]

end Go.Proofs.YtllpenkgaomdfaaDoor.Vm
/- Contracts: lists of segments, policies found. -/
set_option linter.all false
namespace Go.Proofs.YtllpenkgaomdfaaDoor.Vm
open Go
set_option maxRecDepth 100000

/-- two lists' elements compared one by one up to a place -/
theorem eq_of_take {α : Type} [DecidableEq α] {a b : List α} (hl : a.length = b.length) {i : Nat} (hi : a.length ≤ i) (h : a.take i = b.take i) : a = b := by
  rwa [List.take_of_length_le hi, List.take_of_length_le (by omega)] at h
theorem ne_of_get {α : Type} {a b : List α} {i : Nat} (h1 : i < a.length) (h2 : i < b.length) (h : a[i] ≠ b[i]) : a ≠ b := fun e => by subst e; exact h rfl
theorem take_succ_eq {α : Type} {a b : List α} {i : Nat} (h1 : i < a.length) (h2 : i < b.length) (h : a.take i = b.take i) (he : a[i] = b[i]) : a.take (i + 1) = b.take (i + 1) := by
  rw [List.take_succ_eq_append_getElem h1, List.take_succ_eq_append_getElem h2, h, he]

/-- a policy's number in a list, or none -/
def polIdx (ps : List Policy) (node binding : Int) : Option Nat := ps.findIdx? fun p => decide (p.node = node) && decide (p.binding = binding)
theorem findIdx_none {α : Type} {p : α → Bool} {l : List α} {i : Nat} (hi : l.length ≤ i) (h : ∀ x ∈ l.take i, p x = false) : l.findIdx? p = none := by
  rw [List.take_of_length_le hi] at h; rw [List.findIdx?_eq_none_iff]; exact h
theorem findIdx_some {α : Type} {p : α → Bool} {l : List α} {i : Nat} (hi : i < l.length) (h : ∀ x ∈ l.take i, p x = false) (hp : p l[i] = true) : l.findIdx? p = some i := by
  rw [List.findIdx?_eq_some_iff_getElem]
  refine ⟨hi, hp, fun j hj => ?_⟩
  have := h l[j] (List.mem_take_iff_getElem.2 ⟨j, by omega, rfl⟩)
  simp [this]
theorem none_take_succ {α : Type} {p : α → Bool} {l : List α} {i : Nat} (hi : i < l.length) (h : ∀ x ∈ l.take i, p x = false) (hp : p l[i] = false) : ∀ x ∈ l.take (i + 1), p x = false := by
  intro x hx
  rw [List.take_succ_eq_append_getElem hi, List.mem_append] at hx
  rcases hx with hx | hx
  · exact h x hx
  · simp at hx; subst hx; exact hp

def polFind (ps : List Policy) (node binding : Int) : Option Policy := (polIdx ps node binding).bind fun i => ps[i]?
theorem polFind_none {ps : List Policy} {node binding : Int} (h : polIdx ps node binding = none) : polFind ps node binding = none := by simp [polFind, h]
theorem polFind_some {ps : List Policy} {node binding : Int} {i : Nat} (hi : i < ps.length) (h : polIdx ps node binding = some i) : polFind ps node binding = some ps[i] := by simp [polFind, h, hi]
def polOr (p : Option Policy) : Policy := p.getD ⟨0, 0, []⟩

end Go.Proofs.YtllpenkgaomdfaaDoor.Vm
/- Contracts: valid policies. -/
set_option linter.all false
namespace Go.Proofs.YtllpenkgaomdfaaDoor.Vm
open Go
set_option maxRecDepth 100000

def Policy.key (p : Policy) : Int × Int := (p.node, p.binding)
def Policy.good (t : Topology) (p : Policy) : Bool := decide (0 ≤ p.node) && decide (p.node < t.nodes) && decide (0 ≤ p.binding) && decide (p.binding ≤ 65535) && decide (p.list.length ≤ 32) && p.list.all (·.valid t)
def polsValid (t : Topology) (ps : List Policy) : Bool := t.valid && ps.all (·.good t) && decide ((ps.map Policy.key).Nodup)

def seenL (ps : List Policy) : List ((Int × Int) × Bool) := ps.map fun p => (p.key, true)
theorem seenL_keys (ps : List Policy) : (seenL ps).map (·.1) = ps.map Policy.key := by simp [seenL, Function.comp_def]
theorem seenL_lookup {ps : List Policy} {k : Int × Int} : (seenL ps).lookup k = none ↔ k ∉ ps.map Policy.key := by rw [lookup_none, seenL_keys]
theorem seenL_val {ps : List Policy} {k : Int × Int} {b : Bool} (h : (seenL ps).lookup k = some b) : b = true ∧ k ∈ ps.map Policy.key := by
  induction ps with
  | nil => simp [seenL] at h
  | cons p ps ih =>
    simp only [seenL, List.map_cons, List.lookup_cons] at h
    by_cases hk : k = p.key
    · subst hk; simp at h; simp [h]
    · have : (k == p.key) = false := by simp [hk]
      rw [this] at h
      obtain ⟨h1, h2⟩ := ih h
      exact ⟨h1, by simp [h2]⟩

theorem nodup_take_succ {ps : List Policy} {i : Nat} (hi : i < ps.length) (h : ((ps.take i).map Policy.key).Nodup) (hk : ps[i].key ∉ (ps.take i).map Policy.key) : ((ps.take (i + 1)).map Policy.key).Nodup := by
  rw [List.take_succ_eq_append_getElem hi, List.map_append, List.nodup_append]
  refine ⟨h, by simp, fun a ha b hb => ?_⟩
  simp at hb; subst hb
  exact fun e => hk (e ▸ ha)
theorem dup_all {ps : List Policy} {i : Nat} (hi : i < ps.length) (hk : ps[i].key ∈ (ps.take i).map Policy.key) : ¬ (ps.map Policy.key).Nodup := by
  intro hn
  have : ps = ps.take i ++ ps[i] :: ps.drop (i + 1) := by rw [← List.drop_eq_getElem_cons hi, List.take_append_drop]
  rw [this, List.map_append, List.nodup_append] at hn
  exact hn.2.2 _ hk ps[i].key (List.mem_map.2 ⟨_, List.mem_cons_self, rfl⟩) rfl

def eB (b : Bool) : AV := .bool b
theorem seen_put {ps : List Policy} {i : Nat} (hi : i < ps.length) (h : (seenL (ps.take i)).lookup ps[i].key = none) : putM ks2 (.agg [ai ps[i].node, ai ps[i].binding]) (.bool true) (eMap eB (seenL (ps.take i))) = eMap eB (seenL (ps.take (i + 1))) := by
  have := putM2 ps[i].key eB true _ h
  rw [List.take_succ_eq_append_getElem hi, show seenL (ps.take i ++ [ps[i]]) = seenL (ps.take i) ++ [(ps[i].key, true)] by unfold seenL; rw [List.map_append]; rfl]
  exact this

end Go.Proofs.YtllpenkgaomdfaaDoor.Vm
/- Contracts: the reference's expansion. -/
set_option linter.all false
namespace Go.Proofs.YtllpenkgaomdfaaDoor.Vm
open Go
set_option maxRecDepth 100000

/-- an expansion under way: what was kept, and where it stands -/
structure Exp where
  out : List Segment
  at_ : Int
def Exp.enc (s : Exp) : List AV := [asl (s.out.map Segment.enc), ai s.at_]
def Exp.keep (s : Exp) (x : Segment) (a : Int) : Exp × Int := if 32 ≤ s.out.length then (s, 6) else (⟨s.out ++ [x], a⟩, 0)
def eER (r : Exp × Int) : AV := .tuple [.agg r.1.enc, ai r.2]
theorem Exp.keep_len {s : Exp} {x : Segment} {a : Int} (h : s.out.length ≤ 32) : (s.keep x a).1.out.length ≤ 32 := by
  unfold Exp.keep; split
  · exact h
  · simp; omega

def runL (f : Exp → Segment → Exp × Int) : Exp → List Segment → Exp × Int
  | s, [] => (s, 0)
  | s, x :: l => if (f s x).2 ≠ 0 then f s x else runL f (f s x).1 l

/-- a segment is processed; opn: the policies that are being expanded; deep: what becomes of a policy's list -/
def oneG (t : Topology) (ps : List Policy) (opn : List Nat) (s : Exp) (x : Segment) (deep : Nat → Exp × Int) : Exp × Int :=
  if x.kind = 1 then s.keep x x.num
  else if x.kind = 3 then s.keep x (-1)
  else if s.at_ < 0 then (s, 7)
  else if x.kind = 2 then (if t.tail x.num ≠ s.at_ then (s, 4) else s.keep x (t.head x.num))
  else match polIdx ps s.at_ x.num with
    | none => (s, 8)
    | some i => if i ∈ opn then (s, 16) else deep i
def one21 (t : Topology) (ps : List Policy) : Nat → List Nat → Exp → Segment → Exp × Int
  | 0, opn, s, x => oneG t ps opn s x fun _ => (s, 16)
  | n + 1, opn, s, x => oneG t ps opn s x fun i => runL (one21 t ps n (opn ++ [i])) s (ps.getD i default).list
def ints (opn : List Nat) : List Int := opn.map fun (i : Nat) => (i : Int)
def eOpn (opn : List Nat) : AV := asl ((ints opn).map eInt)

theorem runL_len {f : Exp → Segment → Exp × Int} (hf : ∀ s x, s.out.length ≤ 32 → (f s x).1.out.length ≤ 32) : ∀ (l : List Segment) (s : Exp), s.out.length ≤ 32 → (runL f s l).1.out.length ≤ 32 := by
  intro l
  induction l with
  | nil => intro s h; exact h
  | cons x l ih =>
    intro s h
    unfold runL; split
    · exact hf s x h
    · exact ih _ (hf s x h)
theorem oneG_len {t : Topology} {ps : List Policy} {opn : List Nat} {s : Exp} {x : Segment} {deep : Nat → Exp × Int} (h : s.out.length ≤ 32) (hd : ∀ i, (deep i).1.out.length ≤ 32) : (oneG t ps opn s x deep).1.out.length ≤ 32 := by
  unfold oneG
  repeat' split
  all_goals first | exact h | exact Exp.keep_len h | exact hd _
theorem one21_len (t : Topology) (ps : List Policy) : ∀ (n : Nat) (opn : List Nat) (s : Exp) (x : Segment), s.out.length ≤ 32 → (one21 t ps n opn s x).1.out.length ≤ 32 := by
  intro n
  induction n with
  | zero => intro opn s x h; exact oneG_len h fun _ => h
  | succ n ih => intro opn s x h; exact oneG_len h fun i => runL_len (fun s x h => ih _ s x h) _ _ h

/-- what the recursion needs -/
structure OpnOk (ps : List Policy) (opn : List Nat) (n : Nat) : Prop where
  nodup : opn.Nodup
  lt : ∀ i ∈ opn, i < ps.length
  fuel : ps.length ≤ opn.length + n
theorem nodup_len : ∀ {n : Nat} {l : List Nat}, l.Nodup → (∀ i ∈ l, i < n) → l.length ≤ n := by
  intro n l h1 h2
  have : l ⊆ List.range n := fun i hi => List.mem_range.2 (h2 i hi)
  have := List.Nodup.length_le_of_subset h1 this
  simpa using this
theorem OpnOk.succ {ps : List Policy} {opn : List Nat} {n i : Nat} (h : OpnOk ps opn (n + 1)) (hi : i < ps.length) (hn : i ∉ opn) : OpnOk ps (opn ++ [i]) n :=
  ⟨by rw [List.nodup_append]; exact ⟨h.nodup, by simp, fun a ha b hb => by simp at hb; subst hb; exact fun e => hn (e ▸ ha)⟩, fun j hj => by
    rcases List.mem_append.1 hj with hj | hj
    · exact h.lt j hj
    · simp at hj; omega, by have := h.fuel; simp; omega⟩
theorem OpnOk.zero {ps : List Policy} {opn : List Nat} {i : Nat} (h : OpnOk ps opn 0) (hi : i < ps.length) (hn : i ∉ opn) : False := by
  have h1 := h.fuel
  have := nodup_len (n := ps.length) (l := opn ++ [i]) (by rw [List.nodup_append]; exact ⟨h.nodup, by simp, fun a ha b hb => by simp at hb; subst hb; exact fun e => hn (e ▸ ha)⟩) (fun j hj => by
    rcases List.mem_append.1 hj with hj | hj
    · exact h.lt j hj
    · simp at hj; omega)
  simp at this; omega

theorem polIdx_lt {ps : List Policy} {a b : Int} {i : Nat} (h : polIdx ps a b = some i) : i < ps.length := (List.findIdx?_eq_some_iff_getElem.1 h).1
theorem has_opn {opn : List Nat} {i : Nat} : (ints opn).contains (i : Int) = decide (i ∈ opn) := by
  rw [Bool.eq_iff_iff, List.contains_iff_mem, decide_eq_true_eq]
  simp only [ints, List.mem_map]
  exact ⟨fun ⟨a, h, e⟩ => (show a = i by omega) ▸ h, fun h => ⟨i, h, rfl⟩⟩

section
variable (t : Topology) (ps : List Policy) (hl : ps.length < 4611686018427387904) (hls : ∀ p ∈ ps, p.list.length < 4611686018427387904) (h1000 : ps.length ≤ 1000)

theorem runL_snoc {f : Exp → Segment → Exp × Int} : ∀ (l : List Segment) (s : Exp) (x : Segment), (runL f s l).2 = 0 → runL f s (l ++ [x]) = runL f (runL f s l).1 [x] := by
  intro l
  induction l with
  | nil => intro s x _; rfl
  | cons y l ih =>
    intro s x h
    unfold runL at h
    show (if (f s y).2 ≠ 0 then f s y else runL f (f s y).1 (l ++ [x])) = _
    split at h
    · contradiction
    · rename_i he
      rw [if_neg he, ih _ _ h]
      show _ = runL f (if (f s y).2 ≠ 0 then f s y else runL f (f s y).1 l).1 [x]
      rw [if_neg he]
theorem runL_err {f : Exp → Segment → Exp × Int} : ∀ (l : List Segment) (s : Exp) (l' : List Segment), (runL f s l).2 ≠ 0 → runL f s (l ++ l') = runL f s l := by
  intro l
  induction l with
  | nil => intro s l' h; exact (h rfl).elim
  | cons y l ih =>
    intro s l' h
    show (if (f s y).2 ≠ 0 then f s y else runL f (f s y).1 (l ++ l')) = _
    unfold runL at h
    have e0 : runL f s (y :: l) = if (f s y).2 ≠ 0 then f s y else runL f (f s y).1 l := rfl
    rw [e0]
    split at h
    · rename_i he; rw [if_pos he, if_pos he]
    · rename_i he; rw [if_neg he, if_neg he]; exact ih _ _ h
theorem runL_at {f : Exp → Segment → Exp × Int} {l : List Segment} {s : Exp} {i : Nat} (hi : i < l.length) (h : (runL f s (l.take i)).2 = 0) :
    runL f s (l.take (i + 1)) = (if (f (runL f s (l.take i)).1 l[i]).2 ≠ 0 then f (runL f s (l.take i)).1 l[i] else ((f (runL f s (l.take i)).1 l[i]).1, 0)) := by
  rw [List.take_succ_eq_append_getElem hi, runL_snoc _ _ _ h]; rfl
theorem runL_stop {f : Exp → Segment → Exp × Int} {l : List Segment} {s : Exp} {i : Nat} (hi : i < l.length) (h : (runL f s (l.take i)).2 = 0) (he : (f (runL f s (l.take i)).1 l[i]).2 ≠ 0) : runL f s l = f (runL f s (l.take i)).1 l[i] := by
  have := runL_at hi h
  rw [if_pos he] at this
  have h2 := runL_err (f := f) (l.take (i + 1)) s (l.drop (i + 1)) (by rw [this]; exact he)
  rw [List.take_append_drop] at h2
  rw [h2, this]

end

/-- the expansion of a list, as the reference has it -/
def expand21 (t : Topology) (ps : List Policy) (node : Int) (l : List Segment) : List Segment × Int :=
  if polsValid t ps = false ∨ l.all (·.valid t) = false then ([], 1)
  else if node < 0 ∨ t.nodes ≤ node then ([], 2)
  else if (runL (one21 t ps ps.length []) ⟨[], node⟩ l).2 ≠ 0 then ([], (runL (one21 t ps ps.length []) ⟨[], node⟩ l).2) else ((runL (one21 t ps ps.length []) ⟨[], node⟩ l).1.out, 0)
end Go.Proofs.YtllpenkgaomdfaaDoor.Vm
/- Contracts: lists of numbers, arcs of a node. -/
set_option linter.all false
namespace Go.Proofs.YtllpenkgaomdfaaDoor.Vm
open Go
set_option maxRecDepth 100000

/-- where a number is -/
def idxF (l : List Int) (n : Int) : Int := match l.findIdx? fun x => decide (n = x) with
  | some i => i
  | none => -1
/-- the arcs over the links of a node -/
def arcOf (n : Int) (out : Bool) (i : Nat) (l : Link) : List Int :=
  if (decide (l.a = n) == out) = true ∧ (l.a = n ∨ l.b = n) then [2 * (i : Int)] else if l.a = n ∨ l.b = n then [2 * (i : Int) + 1] else []
def arcsN (n : Int) (out : Bool) : Nat → List Link → List Int
  | _, [] => []
  | i, l :: ls => arcOf n out i l ++ arcsN n out (i + 1) ls
theorem arcsN_snoc (n : Int) (out : Bool) (x : Link) : ∀ (ls : List Link) (i : Nat), arcsN n out i (ls ++ [x]) = arcsN n out i ls ++ arcOf n out (i + ls.length) x := by
  intro ls
  induction ls with
  | nil => intro i; simp [arcsN]
  | cons l ls ih => intro i; rw [List.cons_append, arcsN, ih, arcsN, List.append_assoc, List.length_cons, Nat.add_right_comm i 1 ls.length, Nat.add_assoc]
theorem arcOf_len (n : Int) (out : Bool) (i : Nat) (l : Link) : (arcOf n out i l).length ≤ 1 := by
  unfold arcOf; repeat' split
  all_goals simp
theorem arcsN_len (n : Int) (out : Bool) : ∀ (ls : List Link) (i : Nat), (arcsN n out i ls).length ≤ ls.length := by
  intro ls
  induction ls with
  | nil => intro i; exact Nat.le_refl _
  | cons l ls ih => intro i; have := ih (i + 1); have := arcOf_len n out i l; simp [arcsN]; omega
def Topology.arcs1 (t : Topology) (n : Int) (out : Bool) : List Int := if t.valid then arcsN n out 0 t.links else []
theorem arcs1_len (t : Topology) (n : Int) (out : Bool) : (t.arcs1 n out).length ≤ t.links.length := by
  unfold Topology.arcs1; split
  · exact arcsN_len ..
  · exact Nat.zero_le _
end Go.Proofs.YtllpenkgaomdfaaDoor.Vm
/- Tables and packets, as plain data. -/
set_option linter.all false
namespace Go.Proofs.YtllpenkgaomdfaaDoor.Vm
open Go

structure Entry where
  arcs : List Int
  replace : Bool
  push : List Segment
  deriving DecidableEq, Inhabited
def Entry.enc (e : Entry) : List AV := [asl (e.arcs.map eInt), .bool e.replace, asl (e.push.map Segment.enc)]
structure Table where
  node : Int
  to : List Entry
  down : List Int
  deriving DecidableEq, Inhabited
def Table.enc (x : Table) : List AV := [ai x.node, asl (x.to.map Entry.enc), asl (x.down.map eInt)]
structure Packet where
  id : Int
  src : Int
  dst : Int
  flow : Int
  stack : List Segment
  hops : Int
  deriving DecidableEq, Inhabited
def Packet.enc (p : Packet) : List AV := [ai p.id, ai p.src, ai p.dst, ai p.flow, asl (p.stack.map Segment.enc), ai p.hops]
structure Case where
  t : Topology
  x : Table
  p : Packet
  deriving DecidableEq, Inhabited
def Case.enc (c : Case) : List AV := c.t.enc ++ c.x.enc ++ c.p.enc
end Go.Proofs.YtllpenkgaomdfaaDoor.Vm
/- Contracts: tables. -/
set_option linter.all false
namespace Go.Proofs.YtllpenkgaomdfaaDoor.Vm
open Go
set_option maxRecDepth 100000
set_option maxHeartbeats 4000000

/-- at a place of a list: the number is one of these, and greater than the one ahead -/
def okAt (p : Int → Bool) (l : List Int) (k : Nat) : Bool := p (l.getD k 0) && (decide (k = 0) || decide (l.getD (k - 1) 0 < l.getD k 0))
def goes (p : Int → Bool) (l : List Int) : Bool := (List.range l.length).all (okAt p l)
theorem goes_no {p : Int → Bool} {l : List Int} {i : Nat} (hi : i < l.length) (h : okAt p l i = false) : goes p l = false := by
  rw [goes, List.all_eq_false]; exact ⟨i, List.mem_range.2 hi, by simp [h]⟩
theorem goes_yes {p : Int → Bool} {l : List Int} {i : Nat} (hi : l.length ≤ i) (h : ∀ k < i, okAt p l k = true) : goes p l = true := by
  rw [goes, List.all_eq_true]; intro k hk; exact h k (by have := List.mem_range.1 hk; omega)
theorem succ_all {q : Nat → Prop} {i : Nat} (h : ∀ k < i, q k) (hi : q i) : ∀ k < i + 1, q k := fun k hk => by
  rcases Nat.lt_or_ge k i with hlt | hge
  · exact h k hlt
  · obtain rfl : k = i := by omega
    exact hi
theorem getD_at {α : Type} {l : List α} {i : Nat} {d : α} (h : i < l.length) : l.getD i d = l[i] := by rw [List.getD_eq_getElem?_getD, List.getElem?_eq_getElem h]; rfl

def entryOk (t : Topology) (n : Int) (d : Nat) (e : Entry) : Bool :=
  goes (fun a => decide (t.tail a = n)) e.arcs && !(decide ((d : Int) = n) && decide (0 < e.arcs.length)) && !(!e.replace && decide (0 < e.push.length)) && !(e.replace && (decide (e.arcs.length ≠ 1) || decide (32 < e.push.length))) && e.push.all (·.valid t)
def Table.valid (t : Topology) (x : Table) : Bool :=
  t.valid && decide (0 ≤ x.node) && decide (x.node < t.nodes) && decide ((x.to.length : Int) = t.nodes) && goes (fun a => decide (t.tail a = x.node)) x.down && (List.range x.to.length).all fun d => entryOk t x.node d (x.to.getD d default)
theorem range_no {q : Nat → Bool} {n i : Nat} (hi : i < n) (h : q i = false) : (List.range n).all q = false := by
  rw [List.all_eq_false]; exact ⟨i, List.mem_range.2 hi, by simp [h]⟩
theorem range_yes {q : Nat → Bool} {n i : Nat} (hi : n ≤ i) (h : ∀ k < i, q k = true) : (List.range n).all q = true := by
  rw [List.all_eq_true]; intro k hk; exact h k (by have := List.mem_range.1 hk; omega)
/-- sizes -/
structure Fit (t : Topology) (x : Table) : Prop where
  links : t.links.length < 1099511627776
  down : x.down.length < 1099511627776
  to : x.to.length < 1099511627776
  arcs : ∀ e ∈ x.to, e.arcs.length < 1099511627776
  push : ∀ e ∈ x.to, e.push.length < 1099511627776

end Go.Proofs.YtllpenkgaomdfaaDoor.Vm
/- Laws: the arcs of a node; contracts: tables of the program. -/
set_option linter.all false
namespace Go.Proofs.YtllpenkgaomdfaaDoor.Vm
open Go
set_option maxRecDepth 100000
set_option maxHeartbeats 4000000

theorem arcsN_mem (n : Int) (out : Bool) (x : Int) : ∀ (ls : List Link) (i : Nat), x ∈ arcsN n out i ls ↔ ∃ k, ∃ h : k < ls.length, x ∈ arcOf n out (i + k) ls[k] := by
  intro ls
  induction ls with
  | nil => intro i; simp [arcsN]
  | cons l ls ih =>
    intro i
    rw [arcsN, List.mem_append, ih]
    constructor
    · rintro (h | ⟨k, hk, h⟩)
      · exact ⟨0, by simp, by simpa using h⟩
      · exact ⟨k + 1, by simpa using hk, by rw [show i + (k + 1) = i + 1 + k by omega]; simpa using h⟩
    · rintro ⟨k, hk, h⟩
      cases k with
      | zero => left; simpa using h
      | succ k => right; exact ⟨k, by simpa using hk, by rw [show i + 1 + k = i + (k + 1) by omega]; simpa using h⟩
theorem valid_ne {t : Topology} (h : t.valid = true) {l : Link} (hl : l ∈ t.links) : l.a ≠ l.b ∧ 0 ≤ l.a ∧ 0 ≤ l.b := by
  simp [Topology.valid, Link.proper] at h
  grind
theorem out_mem {t : Topology} (h : t.valid = true) {n : Int} (hn : 0 ≤ n) (a : Int) : a ∈ t.arcs1 n true ↔ t.tail a = n := by
  unfold Topology.arcs1
  rw [if_pos h, arcsN_mem, Topology.tail, arcs_valid h]
  constructor
  · rintro ⟨k, hk, hm⟩
    have hne := valid_ne h (List.getElem_mem hk)
    unfold arcOf at hm
    rw [Nat.zero_add] at hm
    have hat : ∀ b : Int, b / 2 = k → t.at_ b = t.links[k] := fun b hb => by unfold Topology.at_; rw [hb, Int.toNat_natCast, getD_at hk]
    split at hm
    · rename_i h1
      simp at h1 hm
      subst hm
      rw [if_neg (by omega), if_pos (by omega), hat _ (by omega)]
      exact h1.1
    · rename_i h1
      split at hm
      · rename_i h2
        simp at h1 hm
        subst hm
        rw [if_neg (by omega), if_neg (by omega), hat _ (by omega)]
        rcases h2 with h2 | h2
        · exact absurd h2 (by intro h3; have := h1 h3; exact this.1 h3)
        · exact h2
      · simp at hm
  · intro ht
    by_cases hr : a < 0 ∨ 2 * (t.links.length : Int) ≤ a
    · rw [if_pos hr] at ht; omega
    rw [if_neg hr] at ht
    have hk : (a / 2).toNat < t.links.length := by omega
    have hat : t.at_ a = t.links[(a / 2).toNat] := by unfold Topology.at_; rw [getD_at hk]
    have hne := valid_ne h (List.getElem_mem hk)
    refine ⟨(a / 2).toNat, hk, ?_⟩
    rw [hat] at ht
    unfold arcOf
    by_cases he : a % 2 = 0
    · rw [if_pos he] at ht
      rw [if_pos (by simp [ht])]
      simp; omega
    · rw [if_neg he] at ht
      rw [if_neg (by simp; omega), if_pos (.inr ht)]
      simp; omega
theorem goes_congr {p q : Int → Bool} (h : ∀ a, p a = q a) (l : List Int) : goes p l = goes q l := by
  have : p = q := funext h
  rw [this]
theorem goes_out {t : Topology} (h : t.valid = true) {n : Int} (hn : 0 ≤ n) (l : List Int) : goes (fun a => (t.arcs1 n true).contains a) l = goes (fun a => decide (t.tail a = n)) l := by
  refine goes_congr (fun a => ?_) l
  rw [Bool.eq_iff_iff, List.contains_iff_mem, out_mem h hn, decide_eq_true_eq]
end Go.Proofs.YtllpenkgaomdfaaDoor.Vm
/- Contracts: copies, packets, the reference's routes. -/
set_option linter.all false
namespace Go.Proofs.YtllpenkgaomdfaaDoor.Vm
open Go
set_option maxRecDepth 100000
set_option maxHeartbeats 4000000

/-- whether a slice without elements is nil is not known -/
theorem sl_split {g : Gh} {w : World} {full : Bool} {es : List (List AV)} {v : Value} (h : Rel g w (.sl none full es) v) : (es = [] ∧ Rel g w (.sl (some true) full []) v) ∨ Rel g w (.sl (some false) full es) v := by
  rcases inv_sl h with ⟨h0, a, h1, h2, rfl⟩ | ⟨b, o, cap, vs, h0, h1, h2, h3, h4, h5, rfl⟩
  · subst h0
    cases a with
    | none => exact .inl ⟨rfl, .slnil (fun _ h => by simp at h) (fun _ h => nomatch h)⟩
    | some a => exact .inr (.slnil (fun h => nomatch h) (fun _ _ h => by simp at h))
  · exact .inr (.sl vs (fun h => by simp at h) h1 h2 h3 (fun i c j x hi hj => (h4 i c j x hi hj).1) (fun i c j x hi hj => (h4 i c j x hi hj).2) h5)
theorem pure_nn {P : Program} {fid : FuncId} {full : Bool} {es : List (List AV)} {rest : List AV} {v : AV} (h1 : es = [] → PureCall P fid (.sl (some true) full [] :: rest) v) (h2 : PureCall P fid (.sl (some false) full es :: rest) v) : PureCall P fid (.sl none full es :: rest) v := by
  refine ⟨h2.1, fun st w vals hst ht hl hr => ?_⟩
  have hv : ∃ u, vals[0]? = some u := by
    refine ⟨vals[0]'(by rw [← hl]; simp), ?_⟩
    simp
  obtain ⟨u, hu⟩ := hv
  have hset : ∀ x, Rel (stG st) w x u → ∀ (i : Nat) (y : AV) (z : Value), (x :: rest)[i]? = some y → vals[i]? = some z → Rel (stG st) w y z := fun x hx i y z hy hz => by
    cases i with
    | zero => rw [hu] at hz; cases hz; cases hy; exact hx
    | succ i => exact hr (i + 1) y z hy hz
  rcases sl_split (hr 0 _ u rfl hu) with ⟨he, h⟩ | h
  · exact (h1 he).2 st w vals hst ht (by simpa using hl) (hset _ h)
  · exact h2.2 st w vals hst ht (by simpa using hl) (hset _ h)
/-- where a packet goes on -/
abbrev Way := List Int × List Segment × Int
def eWay (r : Way) : AV := .tuple [asl (r.1.map eInt), asl (r.2.1.map Segment.enc), ai r.2.2]
def fwd (t : Topology) (x : Table) (stack : List Segment) (again : Way) (to : Int) : Way :=
  if to < 0 ∨ t.nodes ≤ to ∨ (x.to.getD to.toNat default).arcs.length = 0 then (if 0 < stack.length then again else ([], [], 1))
  else if (x.to.getD to.toNat default).replace then
    (if 32 < (x.to.getD to.toNat default).push.length + (stack.length - 1) then ([], [], 5) else ((x.to.getD to.toNat default).arcs, (x.to.getD to.toNat default).push ++ stack.drop 1, 0))
  else ((x.to.getD to.toNat default).arcs, stack, 0)
def routeG (t : Topology) (x : Table) (p : Packet) (stack : List Segment) (again : Way) : Way :=
  if stack.length = 0 ∧ p.dst = x.node then ([], [], -1)
  else if p.hops < 0 ∨ 255 ≤ p.hops then ([], [], 4)
  else if 0 < stack.length then
    (if (stack.getD 0 default).kind = 2 then
      (if t.tail (stack.getD 0 default).num ≠ x.node then ([], [], 2)
       else if x.down.contains (stack.getD 0 default).num then again else ([(stack.getD 0 default).num], stack.drop 1, 0))
     else if (stack.getD 0 default).kind = 1 then fwd t x stack again (stack.getD 0 default).num
     else ([], [], 1))
  else fwd t x stack again p.dst
theorem valid_to {t : Topology} {x : Table} (h : x.valid t = true) : (x.to.length : Int) = t.nodes ∧ ∀ d, d < x.to.length → (x.to.getD d default).push.length ≤ 32 := by
  simp only [Table.valid, Bool.and_eq_true, decide_eq_true_eq, List.all_eq_true, List.mem_range] at h
  refine ⟨h.1.1.2, fun d hd => ?_⟩
  have := h.2 d hd
  simp only [entryOk, Bool.and_eq_true, Bool.not_eq_true', Bool.and_eq_false_iff, Bool.or_eq_false_iff, decide_eq_false_iff_not] at this
  cases hr : (x.to.getD d default).replace <;> simp_all <;> omega
theorem segDrop (l : List Segment) (k : Nat) : elemsOk 2 ((l.map Segment.enc).drop k) := by
  intro c hc
  obtain ⟨x, -, rfl⟩ := List.mem_map.1 (List.mem_of_mem_drop hc)
  exact ⟨rfl, by simp [Segment.enc, AV.oneC]⟩
end Go.Proofs.YtllpenkgaomdfaaDoor.Vm
/- Contracts: cases; lists put together; steps of packets. -/
set_option linter.all false
namespace Go.Proofs.YtllpenkgaomdfaaDoor.Vm
open Go
set_option maxRecDepth 100000
set_option maxHeartbeats 4000000

/- Cases that are too large. -/
def wsum : Int → List Entry → Int
  | n, [] => n
  | n, e :: l => wsum (IntKind.i64.wrap (n + IntKind.i64.wrap ((e.arcs.length : Int) + (e.push.length : Int)))) l
theorem wsum_snoc (e : Entry) : ∀ (l : List Entry) (n : Int), wsum n (l ++ [e]) = IntKind.i64.wrap (wsum n l + IntKind.i64.wrap ((e.arcs.length : Int) + (e.push.length : Int))) := by
  intro l
  induction l with
  | nil => intro n; rfl
  | cons a l ih => intro n; exact ih _
def large23 (c : Case) : Bool := decide (400 < wsum (IntKind.i64.wrap ((c.x.down.length : Int) + (c.p.stack.length : Int))) c.x.to) || decide (70 < c.x.to.length) || decide (100 < c.t.overload.length) || decide (40 < c.t.links.length)
theorem wsum_sum : ∀ (l : List Entry) (n : Int), 0 ≤ n → (∀ e ∈ l, e.arcs.length ≤ 140737488355328 ∧ e.push.length ≤ 140737488355328) → n + l.length * 281474976710656 ≤ 4611686018427387904 →
    n ≤ wsum n l ∧ ∀ e ∈ l, n + ((e.arcs.length : Int) + e.push.length) ≤ wsum n l := by
  intro l
  induction l with
  | nil => intro n h0 _ _; exact ⟨Int.le_refl _, nofun⟩
  | cons a l ih =>
    intro n h0 hl hn
    have ha := hl a (by simp)
    simp only [List.length_cons] at hn
    have hw : IntKind.i64.wrap (n + IntKind.i64.wrap ((a.arcs.length : Int) + (a.push.length : Int))) = n + ((a.arcs.length : Int) + a.push.length) := by
      rw [wrap_in (n := (a.arcs.length : Int) + (a.push.length : Int)) (by omega), wrap_in (by omega)]
    obtain ⟨q1, q2⟩ := ih (n + ((a.arcs.length : Int) + a.push.length)) (by omega) (fun e he => hl e (List.mem_cons_of_mem _ he)) (by omega)
    rw [wsum, hw]
    refine ⟨by omega, fun e he => ?_⟩
    rcases List.mem_cons.1 he with rfl | he
    · exact q1
    · have := q2 e he; omega
/-- the lengths of a case's lists are those of slices -/
structure Case.Ok (c : Case) : Prop where
  to : c.x.to.length ≤ 140737488355328
  down : c.x.down.length ≤ 140737488355328
  stack : c.p.stack.length ≤ 140737488355328
  each : ∀ e ∈ c.x.to, e.arcs.length ≤ 140737488355328 ∧ e.push.length ≤ 140737488355328
theorem large23_no {c : Case} (hc : c.Ok) (h : large23 c = false) : Fit c.t c.x ∧ c.p.stack.length ≤ 400 ∧ c.x.down.length ≤ 400 ∧ (∀ e ∈ c.x.to, e.arcs.length ≤ 400 ∧ e.push.length ≤ 400) ∧ c.x.to.length ≤ 70 ∧ c.t.links.length ≤ 40 := by
  simp only [large23, Bool.or_eq_false_iff, decide_eq_false_iff_not] at h
  obtain ⟨⟨⟨h1, h2⟩, h3⟩, h4⟩ := h
  have h5 := hc.down
  have h6 := hc.stack
  rw [wrap_in (by omega)] at h1
  obtain ⟨q1, q2⟩ := wsum_sum c.x.to ((c.x.down.length : Int) + (c.p.stack.length : Int)) (by omega) hc.each (by omega)
  have hq : ∀ e ∈ c.x.to, e.arcs.length ≤ 400 ∧ e.push.length ≤ 400 := fun e he => by have := q2 e he; omega
  exact ⟨⟨by omega, by omega, by omega, fun e he => by have := hq e he; omega, fun e he => by have := hq e he; omega⟩, by omega, by omega, hq, by omega, by omega⟩

/- Two lists, put together. -/
end Go.Proofs.YtllpenkgaomdfaaDoor.Vm
/- Contracts: steps of packets. -/
set_option linter.all false
namespace Go.Proofs.YtllpenkgaomdfaaDoor.Vm
open Go
set_option maxRecDepth 100000
set_option maxHeartbeats 4000000

theorem dropWhile_at {α : Type} {p : α → Bool} : ∀ (l : List α) (i : Nat), (∀ y ∈ l.take i, p y = true) → (∀ h : i < l.length, p l[i] = false) → l.drop i = l.dropWhile p := by
  intro l
  induction l with
  | nil => intro i _ _; simp
  | cons a l ih =>
    intro i h1 h2
    cases i with
    | zero => have := h2 (by simp); rw [List.dropWhile_cons_of_neg (by simpa using this)]; rfl
    | succ i => rw [List.dropWhile_cons_of_pos (h1 a (by simp)), List.drop_succ_cons]; exact ih i (fun y hy => h1 y (by simp [hy])) (fun h => h2 (by simpa using h))

def route (t : Topology) (x : Table) (p : Packet) (stack : List Segment) : Way := routeG t x p stack (routeG t x p [] ([], [], 0))
def own (x : Table) (s : Segment) : Bool := decide (s = ⟨1, x.node⟩)
abbrev Stepped := List Int × Packet × Int
def eStep (r : Stepped) : AV := .tuple [asl (r.1.map eInt), .agg r.2.1.enc, ai r.2.2]
def stepR (t : Topology) (x : Table) (p : Packet) : Stepped :=
  if x.valid t = false ∨ p.dst < 0 ∨ t.nodes ≤ p.dst then ([], p, 1) else if 32 < p.stack.length then ([], p, 5) else
  if (route t x p (p.stack.dropWhile (own x))).2.2 = -1 then ((route t x p (p.stack.dropWhile (own x))).1, { p with stack := [] }, (route t x p (p.stack.dropWhile (own x))).2.2)
  else if (route t x p (p.stack.dropWhile (own x))).2.2 = 0 then ((route t x p (p.stack.dropWhile (own x))).1, { p with stack := (route t x p (p.stack.dropWhile (own x))).2.1, hops := IntKind.i64.wrap (p.hops + 1) }, (route t x p (p.stack.dropWhile (own x))).2.2)
  else ((route t x p (p.stack.dropWhile (own x))).1, p, (route t x p (p.stack.dropWhile (own x))).2.2)
theorem drop_win (l : List Segment) (i : Nat) : ((l.map Segment.enc).drop i).take (l.length - i) = (l.drop i).map Segment.enc := by
  rw [← List.map_drop, List.take_of_length_le (by simp)]

theorem idx_at {es : List (List AV)} {i : Int} {j n : Nat} {R : List AV → Prop} {p : Prop} (hp : p) (hij : i = j) {c : List AV} (hc : es[j]? = some c) (hl : c.length = n) (h : R c) :
    p ∧ 0 ≤ i ∧ ∃ c, es[i.toNat]? = some c ∧ c.length = n ∧ R c := by
  subst hij; exact ⟨hp, by omega, c, by simpa using hc, hl, h⟩
theorem nrm_sref {s : List VObj} {id ver esz off len : Nat} {nn : Option Bool} {es : List (List AV)} {fz : Bool} (ho : getO s id = .arr ver esz nn es fz) (h : off + len ≤ es.length) : nrmD s (.sref id ver esz off len) = .sl none false ((es.drop off).take len) := by
  show nrm s (.sref id ver esz off len) = _
  simp only [nrm, ho, Nat.beq_refl, Bool.true_and]
  rw [Nat.ble_eq_true_of_le h]
end Go.Proofs.YtllpenkgaomdfaaDoor.Vm
/- Contracts: distances, next arcs and routes of the reference. -/
set_option linter.all false
namespace Go.Proofs.YtllpenkgaomdfaaDoor.Vm
open Go
set_option maxRecDepth 100000
set_option maxHeartbeats 4000000

def Topology.ovl (t : Topology) (n : Int) : Bool := t.valid && decide (0 ≤ n) && decide (n < t.overload.length) && t.overload.getD n.toNat false
def fits11 (t : Topology) (down : List Bool) : Bool := t.valid && (decide (down.length = 0) || decide ((down.length : Int) = 2 * t.links.length))
def upB (down : List Bool) (a : Int) : Bool := decide (down.length = 0) || !(down.getD a.toNat false)
def transit (t : Topology) (n e : Int) : Bool := decide (n = e) || !t.ovl n
theorem ends_range {t : Topology} {a : Int} (h0 : 0 ≤ a) (h : a < t.arcs) : 0 ≤ t.tail a ∧ t.tail a < t.nodes ∧ 0 ≤ t.head a ∧ t.head a < t.nodes := by
  obtain ⟨q1, q2, q3, q4⟩ := arcs_le (t := t) (a := a) (by omega) (by omega)
  have hn := valid_nodes q3
  have hp : (t.at_ a).proper t.nodes = true := by
    rw [← at_get q1]
    simp only [Topology.valid, Bool.and_eq_true, List.all_eq_true] at q3
    exact q3.2 _ (List.getElem_mem q1)
  simp only [Link.proper, Bool.and_eq_true, decide_eq_true_eq, wrap_in (n := t.nodes - 1) (by omega)] at hp
  unfold Topology.tail Topology.head
  have hc : ¬ (a < 0 ∨ t.arcs ≤ a) := by omega
  simp only [if_neg hc]
  by_cases h2 : a % 2 = 0
  · simp only [if_pos h2]; omega
  · simp only [if_neg h2]; omega

section
variable (t : Topology) (down : List Bool) (n : Int) (fr : Bool)
def relaxX (a : Int) : Int := if fr then t.head a else t.tail a
def relaxY (a : Int) : Int := if fr then t.tail a else t.head a
def relax (st : List Int × Bool) (a : Nat) : List Int × Bool :=
  if upB down a = false ∨ st.1.getD (relaxY t fr a).toNat 0 < 0 ∨ transit t (relaxY t fr a) n = false then st
  else if st.1.getD (relaxX t fr a).toNat 0 < 0 ∨ IntKind.i64.wrap (st.1.getD (relaxY t fr a).toNat 0 + t.cost a) < st.1.getD (relaxX t fr a).toNat 0 then
    (st.1.set (relaxX t fr a).toNat (IntKind.i64.wrap (st.1.getD (relaxY t fr a).toNat 0 + t.cost a)), true) else st
def passTo (out : List Int) (i : Nat) : List Int × Bool := (List.range i).foldl (relax t down n fr) (out, false)
def rounds : Nat → List Int × Bool
  | 0 => ((List.replicate t.nodes.toNat (-1)).set n.toNat 0, true)
  | k + 1 => passTo t down n fr (rounds k).1 (2 * t.links.length)
end
theorem relax_skip {t : Topology} {down : List Bool} {n : Int} {fr : Bool} {st : List Int × Bool} {a : Nat} (h : upB down a = false ∨ st.1.getD (relaxY t fr a).toNat 0 < 0 ∨ transit t (relaxY t fr a) n = false) : relax t down n fr st a = st := by
  unfold relax; rw [if_pos h]
theorem relax_keep {t : Topology} {down : List Bool} {n : Int} {fr : Bool} {st : List Int × Bool} {a : Nat} (h1 : ¬ st.1.getD (relaxX t fr a).toNat 0 < 0) (h2 : ¬ IntKind.i64.wrap (st.1.getD (relaxY t fr a).toNat 0 + t.cost a) < st.1.getD (relaxX t fr a).toNat 0) : relax t down n fr st a = st := by
  unfold relax; split
  · rfl
  · rw [if_neg (by omega)]
theorem relax_set {t : Topology} {down : List Bool} {n : Int} {fr : Bool} {st : List Int × Bool} {a : Nat} (h0 : upB down a = true) (h1 : ¬ st.1.getD (relaxY t fr a).toNat 0 < 0) (h2 : transit t (relaxY t fr a) n = true)
    (h : st.1.getD (relaxX t fr a).toNat 0 < 0 ∨ IntKind.i64.wrap (st.1.getD (relaxY t fr a).toNat 0 + t.cost a) < st.1.getD (relaxX t fr a).toNat 0) :
    relax t down n fr st a = (st.1.set (relaxX t fr a).toNat (IntKind.i64.wrap (st.1.getD (relaxY t fr a).toNat 0 + t.cost a)), true) := by
  unfold relax; rw [if_neg (fun hq => by rcases hq with hq | hq | hq; rw [h0] at hq; exact nomatch hq; exact h1 hq; rw [h2] at hq; exact nomatch hq), if_pos h]
theorem relax_len (t : Topology) (down : List Bool) (n : Int) (fr : Bool) (st : List Int × Bool) (a : Nat) : (relax t down n fr st a).1.length = st.1.length := by
  unfold relax; repeat' split
  all_goals simp
theorem passTo_succ (t : Topology) (down : List Bool) (n : Int) (fr : Bool) (out : List Int) (i : Nat) : passTo t down n fr out (i + 1) = relax t down n fr (passTo t down n fr out i) i := by
  simp [passTo, List.range_succ]
theorem passTo_len (t : Topology) (down : List Bool) (n : Int) (fr : Bool) (out : List Int) (i : Nat) : (passTo t down n fr out i).1.length = out.length := by
  induction i with
  | zero => rfl
  | succ i ih => rw [passTo_succ, relax_len, ih]
theorem rounds_len (t : Topology) (down : List Bool) (n : Int) (fr : Bool) (k : Nat) : (rounds t down n fr k).1.length = t.nodes.toNat := by
  induction k with
  | zero => simp [rounds]
  | succ k ih => rw [rounds, passTo_len, ih]
theorem fits_valid {t : Topology} {down : List Bool} (h : fits11 t down = true) : t.valid = true ∧ (down.length = 0 ∨ (down.length : Int) = 2 * t.links.length) := by
  simpa [fits11] using h

theorem set_rep {α : Type} (a b : α) (N i : Nat) (h : i < N) : (List.replicate i a ++ List.replicate (N - i) b).set i a = List.replicate (i + 1) a ++ List.replicate (N - (i + 1)) b := by
  rw [List.set_append_right _ _ (by simp), List.length_replicate, Nat.sub_self, show N - i = (N - (i + 1)) + 1 by omega, List.replicate_succ, List.set_cons_zero, List.replicate_succ', List.append_assoc]
  rfl
theorem repB_get {α : Type} (a b : α) (N i : Nat) (h : i < N) : (List.replicate i a ++ List.replicate (N - i) b)[i]? = some b := by
  rw [List.getElem?_append_right (by simp), List.length_replicate, Nat.sub_self, List.getElem?_replicate, if_pos (by omega)]
theorem repA_get {α : Type} (a : α) (l : List α) (i j : Nat) (h : j < i) : (List.replicate i a ++ l)[j]? = some a := by
  rw [List.getElem?_append_left (by simpa using h), List.getElem?_replicate, if_pos h]
theorem get_map {l : List Int} {j : Nat} (h : j < l.length) : (l.map eInt)[j]? = some (eInt (l.getD j 0)) := by
  rw [List.getElem?_map, List.getElem?_eq_getElem h, getD_at h]; rfl
end Go.Proofs.YtllpenkgaomdfaaDoor.Vm
/- Contracts: components. -/
set_option linter.all false
namespace Go.Proofs.YtllpenkgaomdfaaDoor.Vm
open Go
set_option maxRecDepth 100000
set_option maxHeartbeats 4000000

structure Comp where
  kind : Int
  num : Int
  deriving DecidableEq, Inhabited
def Comp.enc (c : Comp) : List AV := [ai c.kind, ai c.num]
def Comp.valid (t : Topology) (c : Comp) : Bool :=
  t.valid && (if c.kind = 1 then decide (0 ≤ c.num) && decide (c.num < t.links.length) else if c.kind = 2 then decide (0 ≤ c.num) && decide (c.num < t.nodes) else if c.kind = 3 then decide (1 ≤ c.num) && decide (c.num ≤ 64) else false)
def Comp.has (c : Comp) (i : Int) (l : Link) : Bool := if c.kind = 1 then decide (i = c.num) else if c.kind = 2 then decide (l.a = c.num) || decide (l.b = c.num) else decide (l.group = c.num)

abbrev ks1 : Bool × List LK := (false, [.int .i64])
theorem eqKey1 (k k' : Int) : eqKey ks1 (ai k) (ai k') = some (decide (k = k')) := by
  simp [eqKey, eqLeafs]
theorem hasKs1 (k : Int) (l : List (Int × AV)) : hasKs ks1 (ai k) (l.map fun p => (ai p.1, p.2)) := by
  refine ⟨by rw [eqKey1]; rfl, fun e he => ?_⟩
  obtain ⟨p, -, rfl⟩ := List.mem_map.1 he
  rw [eqKey1]; rfl
theorem findK1 (k : Int) : ∀ (l : List (Int × AV)), findK ks1 (ai k) (l.map fun p => (ai p.1, p.2)) = l.lookup k := by
  intro l
  induction l with
  | nil => rfl
  | cons p l ih =>
    simp only [List.map_cons, findK, eqKey1, List.lookup]
    by_cases h : k = p.1
    · rw [decide_eq_true h, h, BEq.rfl]
    · rw [decide_eq_false h, show (k == p.1) = false by simpa using h, ih]
theorem look3 {k : Int} {a b c : AV} {R : Option AV → Prop} (h1 : k = 1 → R (some a)) (h2 : k = 2 → R (some b)) (h3 : k = 3 → R (some c)) (h0 : k ≠ 1 → k ≠ 2 → k ≠ 3 → R none) :
    hasKs ks1 (ai k) [(ai 1, a), (ai 2, b), (ai 3, c)] ∧ ∃ q, findK ks1 (ai k) [(ai 1, a), (ai 2, b), (ai 3, c)] = q ∧ R q := by
  refine ⟨hasKs1 k [(1, a), (2, b), (3, c)], _, findK1 k [(1, a), (2, b), (3, c)], ?_⟩
  by_cases e1 : k = 1
  · subst e1; exact h1 rfl
  by_cases e2 : k = 2
  · subst e2; exact h2 rfl
  by_cases e3 : k = 3
  · subst e3; exact h3 rfl
  have : [((1 : Int), a), (2, b), (3, c)].lookup k = none := by
    simp only [List.lookup]
    rw [show (k == 1) = false by simpa using e1, show (k == 2) = false by simpa using e2, show (k == 3) = false by simpa using e3]
  rw [this]; exact h0 e1 e2 e3

/-- of an arc -/
def Comp.arc (t : Topology) (c : Comp) (a : Int) : Bool := c.has (a / 2) (t.at_ a)
def withinB (t : Topology) (c d : Comp) : Bool := c.valid t && d.valid t && (List.range t.links.length).all fun i => !(c.has i (t.links.getD i default)) || d.has i (t.links.getD i default)
theorem validC_links {t : Topology} {c : Comp} (h : c.valid t = true) : t.valid = true := by
  unfold Comp.valid at h; simp only [Bool.and_eq_true] at h; exact h.1
end Go.Proofs.YtllpenkgaomdfaaDoor.Vm
/- Data of tied cards' rows: the seat's types. -/
set_option linter.all false
namespace Go.Proofs.YtllpenkgaomdfaaDoor.Vm
open Go Go.ChangeShapes Go.WideShapes Go.ChangeAt Go.RowKit Go.Proofs.YtllpenkgaomdfaaDoor
set_option maxRecDepth 100000
theorem sum_bulk {H : Type} : ∀ (l : List (DataW H)), (l.map (Rows.uptoBulk (H := H))).sum = Rows.uptoBulkAll l := by
  intro l; induction l with
  | nil => simp [Rows.uptoBulkAll]
  | cons x l ih => simp [Rows.uptoBulkAll, ih]
theorem uok : UOk (fun H => Rows.uptoBulk (H := H)) where
  str H b := by simp [Rows.uptoBulk]
  lit H l := by cases l <;> simp [Rows.uptoBulk]
  nil H := by simp [Rows.uptoBulk]
  slice H es sp := by simp [Rows.uptoBulk, sum_bulk]
  agg H ps := by simp [Rows.uptoBulk, sum_bulk]
abbrev UB : (H : Type) → DataW H → Nat := fun H => Rows.uptoBulk (H := H)
def okAny (α : Type) : α → Prop := fun _ => True
def bulk0 (α : Type) : α → Nat := fun _ => 0

/-- a struct's fields, as far as they matter -/
def fldsOf (P : Program) (t : TypeId) : Option (List (TypeId × Nat)) := match P.underlying t with
  | some (.struct fs) => some (fs.toList.map fun f => (f.type, f.offset))
  | _ => none
def fld (x : TypeId × Nat) : Field := ⟨ "", x.1, x.2, false, "", "", 0⟩
theorem OpensF.congr {P : Program} {U : (H : Type) → DataW H → Nat} {fs fs' : List Field} {o : Nat} {β : Type} {n : Nat} {enc : β → List AV} {ok : β → Prop} {bulk : β → Nat} (h : OpensF P U fs' o β n enc ok bulk) (he : fs.map (fun f => (f.type, f.offset)) = fs'.map fun f => (f.type, f.offset)) : OpensF P U fs o β n enc ok bulk where
  len := h.len
  pure := h.pure
  op eh w base held m cs xs h1 h2 h3 hwt := by
    have ht : fs.map (·.type) = fs'.map (·.type) := by
      have := congrArg (List.map Prod.fst) he
      rw [List.map_map, List.map_map] at this
      exact this
    rw [ht] at hwt
    refine h.op eh w base held m cs xs h1 (by rw [h2, ← List.length_map (f := fun f : Field => (f.type, f.offset)), he, List.length_map]) (fun i f hf => ?_) hwt
    have := congrArg (fun l : List (TypeId × Nat) => l[i]?) he
    simp only [List.getElem?_map, hf, Option.map_some, Option.map_eq_some_iff, Prod.mk.injEq] at this
    obtain ⟨f', q1, q2, q3⟩ := this
    have := h3 i f' q1
    rw [q2, q3] at this
    exact this
theorem opens_flds {P : Program} {U : (H : Type) → DataW H → Nat} (hU : UOk U) {t : TypeId} {l : List (TypeId × Nat)} {β : Type} {n : Nat} {enc : β → List AV} {ok : β → Prop} {bulk : β → Nat} (ht : fldsOf P t = some l) (hc : P.cellsOf t = n) (h0 : 0 < n)
    (h : OpensF P U (l.map fld) 0 β n enc ok bulk) : Opens P U t β n enc ok (fun x => bulk x + 1) := by
  unfold fldsOf at ht
  split at ht
  · rename_i fs hfs
    refine opens_struct hU hfs hc h0 (h.congr ?_)
    cases ht
    rw [List.map_map]
    exact (List.map_id _).symm
  · exact nomatch ht
theorem struct_flds {P : Program} {t : TypeId} {l : List (TypeId × Nat)} (ht : fldsOf P t = some l) : ∃ fs, P.underlying t = some (.struct fs) := by
  unfold fldsOf at ht
  split at ht
  · rename_i fs hfs; exact ⟨fs, hfs⟩
  · exact nomatch ht

theorem o_int : Opens Tryd.prog UB T.int Int 1 (fun n => [.int .i64 n]) (okAny _) (bulk0 _) := (opens_int uok (k := .i64) (by kernel_rfl) (by kernel_rfl)).map id (fun _ => rfl) (fun y a h => by simp at h; subst h; rfl) (fun _ => rfl) (fun _ _ => trivial) (fun _ => Nat.zero_le _)
theorem o_bool : Opens Tryd.prog UB T.bool Bool 1 (fun b => [.bool b]) (fun _ => True) (fun _ => 1) := opens_bool uok (by kernel_rfl) (by kernel_rfl)
theorem o_list {t e : TypeId} {α : Type} {n : Nat} {enc : α → List AV} (ht : Tryd.prog.underlying t = some (.slice e)) (hc : Tryd.prog.cellsOf t = 1) (h : Opens Tryd.prog UB e α n enc (okAny _) (bulk0 _)) :
    Opens Tryd.prog UB t (List α) 1 (fun xs => [asl (xs.map enc)]) (okAny _) (bulk0 _) :=
  (opens_slice uok ht hc h).map id (fun _ => rfl) (fun y a h => by simp at h; subst h; rfl) (fun _ => rfl) (fun _ _ => trivial) (fun _ => Nat.zero_le _)
theorem reach_len {n b : Nat} (hb : 1 ≤ b) (h : n * b ≤ reachBytes) : n ≤ 140737488355328 :=
  Nat.le_trans (Nat.le_mul_of_pos_right n hb) (Nat.le_trans h (by decide))
theorem o_listK {t e : TypeId} {α : Type} {n : Nat} {enc : α → List AV} {ok : α → Prop} (hb : 1 ≤ Tryd.prog.bytesOf e) (ht : Tryd.prog.underlying t = some (.slice e)) (hc : Tryd.prog.cellsOf t = 1) (h : Opens Tryd.prog UB e α n enc ok (bulk0 _)) :
    Opens Tryd.prog UB t (List α) 1 (fun xs => [asl (xs.map enc)]) (fun xs => (∀ x ∈ xs, ok x) ∧ xs.length ≤ 140737488355328) (bulk0 _) :=
  (opens_slice uok ht hc h).map id (fun _ => rfl) (fun y a h => by simp at h; subst h; rfl) (fun _ => rfl) (fun _ h => ⟨h.1, reach_len hb h.2⟩) (fun _ => Nat.zero_le _)
theorem opens_three {P : Program} {U : (H : Type) → DataW H → Nat} (hU : UOk U) {t e : TypeId} {α : Type} {n : Nat} {enc : α → List AV} {ok : α → Prop} {bulk : α → Nat} (ht : P.underlying t = some (.array 3 e)) (hc : P.cellsOf t = n + n + n) (h : Opens P U e α n enc ok bulk) :
    Opens P U t (α × α × α) (n + n + n) (fun x => enc x.1 ++ enc x.2.1 ++ enc x.2.2) (fun _ => True) (fun _ => 0) where
  size := hc
  pos := by have := h.pos; omega
  len x := by rw [List.length_append, List.length_append, h.len, h.len, h.len]
  pure x a hh := by
    rcases List.mem_append.1 hh with hh | hh
    · rcases List.mem_append.1 hh with hh | hh
      · exact h.pure _ a hh
      · exact h.pure _ a hh
    · exact h.pure _ a hh
  op eh w base held fuel cs d ps hd hwt := by
    obtain ⟨xs, m, _, h2, h3, h4, h5⟩ := DataW.trod_array ht hd
    cases h2
    simp only [DataW.weights, ht] at hwt
    match xs, h4 with
    | [(d1, p1), (d2, p2), (d3, p3)], _ =>
      have e1 := h5 0 (by omega)
      have e2 := h5 1 (by omega)
      have e3 := h5 2 (by omega)
      rw [h.size] at e1 e2 e3
      simp only [Nat.zero_mul, List.drop_zero, List.getElem?_cons_zero, Nat.one_mul, List.getElem?_cons_succ] at e1 e2 e3
      simp only [List.map_cons, List.map_nil, DataW.weightsAll, List.mem_append, List.append_nil] at hwt
      obtain ⟨x1, q1, _, _⟩ := h.op eh w base held m _ d1 p1 e1 fun n hn => hwt n (.inl hn)
      obtain ⟨x2, r1, _, _⟩ := h.op eh w base held m _ d2 p2 e2 fun n hn => hwt n (.inr (.inl hn))
      obtain ⟨x3, s1, _, _⟩ := h.op eh w base held m _ d3 p3 e3 fun n hn => hwt n (.inr (.inr hn))
      have hsplit : cs = cs.take n ++ (cs.drop n).take n ++ (cs.drop (2 * n)).take n := by
        rw [← List.take_add, show 2 * n = n + n by omega, ← List.take_add, ← hc, ← h3, List.take_length]
      refine ⟨(x1, x2, x3), ?_, trivial, Nat.zero_le _⟩
      rw [hsplit]
      have app : ∀ {a1 a2 : List AV} {v1 v2 : List Value}, RelL (stG (oldS w)) w a1 v1 → RelL (stG (oldS w)) w a2 v2 → RelL (stG (oldS w)) w (a1 ++ a2) (v1 ++ v2) := by
        intro a1 a2 v1 v2 k1 k2
        refine ⟨by rw [List.length_append, List.length_append, k1.len, k2.len], fun j a v ha hv => ?_⟩
        rw [List.getElem?_append] at ha hv
        rw [k1.len] at ha
        split at ha
        · rename_i hj; rw [if_pos hj] at hv; exact k1.rel _ _ _ ha hv
        · rename_i hj; rw [if_neg hj] at hv; exact k2.rel _ _ _ ha hv
      exact app (app q1 r1) s1
/-- what an argument may be -/
def Is {α : Type} (enc : α → AV) (ok : α → Prop) (a : AV) : Prop := ∃ x, a = enc x ∧ ok x
theorem a_struct {t : TypeId} {α : Type} {n : Nat} {enc : α → List AV} {ok : α → Prop} {l : List (TypeId × Nat)} (hO : Opens Tryd.prog UB t α n enc ok (bulk0 _)) (hl : fldsOf Tryd.prog t = some l) : ArgP t (Is (fun x => .agg (enc x)) ok) :=
  fun H eh W base v d p h1 h2 h3 => by
    obtain ⟨fs, hfs⟩ := struct_flds hl
    obtain ⟨x, k1, k2, _⟩ := arg_struct hO hfs h1 h2 h3
    exact ⟨_, k1, x, rfl, k2⟩
theorem a_cell {t : TypeId} {α : Type} {enc : α → AV} {ok : α → Prop} {d2 : TypeDesc} (hO : Opens Tryd.prog UB t α 1 (fun x => [enc x]) ok (bulk0 _)) (hd2 : Tryd.prog.underlying t = some d2) (hn1 : ∀ fs, d2 ≠ .struct fs) (hn2 : ∀ n e, d2 ≠ .array n e) : ArgP t (Is enc ok) :=
  fun H eh W base v d p h1 h2 h3 => by
    obtain ⟨x, k1, k2, _⟩ := arg_cell hO hd2 hn1 hn2 h1 h2 h3
    exact ⟨_, k1, x, rfl, k2⟩
theorem a_array {t e : TypeId} {α : Type} {n m : Nat} {enc : α → List AV} {ok : α → Prop} (hO : Opens Tryd.prog UB t α n enc ok (bulk0 _)) (hd : Tryd.prog.underlying t = some (.array m e)) : ArgP t (Is (fun x => .agg (enc x)) ok) :=
  fun H eh W base v d p h1 h2 h3 => by
    have : ∃ cs, v = .agg cs := by
      unfold Value.okWide at h1
      rw [hd] at h1
      obtain ⟨cs, rfl, _⟩ := h1
      exact ⟨cs, rfl⟩
    obtain ⟨cs, rfl⟩ := this
    obtain ⟨fuel, ht⟩ := h2
    obtain ⟨x, k1, k2, _⟩ := hO.op eh W 0 true fuel _ d p ht h3
    refine ⟨_, .agg (k1.len.trans (by simp [Value.cells])) fun i a u ha hu => k1.rel i a u ha ?_, x, rfl, k2⟩
    show cs.toList[i]? = some u
    simpa using hu

theorem o_ints : Opens Tryd.prog UB T.sl_int (List Int) 1 (fun xs => [asl (xs.map eInt)]) (fun xs => xs.length ≤ 140737488355328) (bulk0 _) :=
  (o_listK (enc := fun n => [AV.int .i64 n]) (by decide +kernel) (by kernel_rfl) (by kernel_rfl) o_int).map id (fun _ => rfl) (fun y a h => by simp at h; subst h; rfl) (fun _ => rfl) (fun _ h => h.2) (fun _ => Nat.zero_le _)
theorem o_u8 : Opens Tryd.prog UB T.uint8 Int 1 (fun n => [.int .u8 n]) (fun n => 0 ≤ n ∧ n ≤ 255) (bulk0 _) := (opens_int uok (k := .u8) (by kernel_rfl) (by kernel_rfl)).map id (fun _ => rfl) (fun y a h => by simp at h; subst h; rfl) (fun _ => rfl) (fun _ h => h) (fun _ => Nat.zero_le _)
theorem o_str : Opens Tryd.prog UB T.string (List UInt8) 1 (fun s => [.str s]) (fun s => s.length ≤ 140737488355328) (bulk0 _) := (opens_str uok (by kernel_rfl) (by kernel_rfl)).map id (fun _ => rfl) (fun y a h => by simp at h; subst h; rfl) (fun _ => rfl) (fun _ h => Nat.le_trans h (by decide)) (fun _ => Nat.zero_le _)
theorem o_u32 : Opens Tryd.prog UB T.uint32 Int 1 (fun n => [.int .u32 n]) (fun n => 0 ≤ n ∧ n ≤ 4294967295) (bulk0 _) := (opens_int uok (k := .u32) (by kernel_rfl) (by kernel_rfl)).map id (fun _ => rfl) (fun y a h => by simp at h; subst h; rfl) (fun _ => rfl) (fun _ h => h) (fun _ => Nat.zero_le _)
def ePfx (x : Int × Int) : List AV := [.int .u32 x.1, .int .i64 x.2]
def okPfx (x : Int × Int) : Prop := 0 ≤ x.1 ∧ x.1 ≤ 4294967295
theorem o_pfx : Opens Tryd.prog UB T.Prefix (Int × Int) 2 ePfx okPfx (bulk0 _) :=
  (opens_flds uok (l := [(T.uint32, 0), (T.int, 1)]) (by kernel_rfl) (by kernel_rfl) (by decide)
    (opens_cons (f := fld (T.uint32, 0)) o_u32 (opens_cons (f := fld (T.int, 1)) o_int opens_nil))).map
    (fun x => (x.1, x.2.1)) (fun _ => rfl) (fun y a h => by
      simp only [ePfx, List.mem_cons, List.mem_nil_iff, or_false] at h; rcases h with rfl | rfl <;> rfl) (fun _ => rfl) (fun _ h => h.1) (fun _ => Nat.zero_le _)
theorem o_pfxs : Opens Tryd.prog UB T.sl_Prefix (List (Int × Int)) 1 (fun xs => [asl (xs.map ePfx)]) (fun xs => (∀ x ∈ xs, okPfx x) ∧ xs.length ≤ 140737488355328) (bulk0 _) := o_listK (by decide +kernel) (by kernel_rfl) (by kernel_rfl) o_pfx
theorem p_u32 : ArgP T.uint32 (Is (fun n : Int => .int .u32 n) fun n => 0 ≤ n ∧ n ≤ 4294967295) := a_cell o_u32 (d2 := .int .u32) (by kernel_rfl) (fun _ h => nomatch h) (fun _ _ h => nomatch h)
theorem p_pfx : ArgP T.Prefix (Is (fun x : Int × Int => .agg (ePfx x)) okPfx) := a_struct o_pfx (l := [(T.uint32, 0), (T.int, 1)]) (by kernel_rfl)
theorem p_pfxs : ArgP T.sl_Prefix (Is (fun xs : List (Int × Int) => asl (xs.map ePfx)) fun xs => (∀ x ∈ xs, okPfx x) ∧ xs.length ≤ 140737488355328) := a_cell o_pfxs (d2 := .slice T.Prefix) (by kernel_rfl) (fun _ h => nomatch h) (fun _ _ h => nomatch h)
theorem p_ints : ArgP T.sl_int (Is (fun xs : List Int => asl (xs.map eInt)) fun xs => xs.length ≤ 140737488355328) := a_cell o_ints (d2 := .slice T.int) (by kernel_rfl) (fun _ h => nomatch h) (fun _ _ h => nomatch h)
theorem p_int : ArgP T.int (Is (fun n : Int => ai n) (okAny _)) := a_cell o_int (d2 := .int .i64) (by kernel_rfl) (fun _ h => nomatch h) (fun _ _ h => nomatch h)
theorem p_u8 : ArgP T.uint8 (Is (fun n : Int => .int .u8 n) fun n => 0 ≤ n ∧ n ≤ 255) := a_cell o_u8 (d2 := .int .u8) (by kernel_rfl) (fun _ h => nomatch h) (fun _ _ h => nomatch h)
theorem p_str : ArgP T.string (Is (fun s : List UInt8 => .str s) fun s => s.length ≤ 140737488355328) := a_cell o_str (d2 := .string) (by kernel_rfl) (fun _ h => nomatch h) (fun _ _ h => nomatch h)
end Go.Proofs.YtllpenkgaomdfaaDoor.Vm
/- Rows of tied cards: what lists of tables and shapes give; the wrap that keeps both. -/
set_option linter.all false
namespace Go.Proofs.YtllpenkgaomdfaaDoor.Vm
open Go Go.RowKit Go.ChangeShapes Go.WideShapes Go.ChangeAt Go.Proofs.YtllpenkgaomdfaaDoor
set_option maxRecDepth 100000
theorem handed_shaped_and {H : Type} {enc : TypeId × Value → H} {a : Assume} {C : Checked} {os : Os} {f : FuncId} {fn : Func} {s : ChangeSpec} {conds : List PathCond} {apart fresh handsOn again : Bool} {X : World → Array Value → Prop}
    (hX : ∀ (w w' : World) (args : Array Value), w.heap = w'.heap → X w args → X w' args)
    (own : ownKnob C.prog.godebug = none) (started : os.Started) (noInit : C.prog.inits.idxOf? f = none) (hfn : C.prog.funcs[f]? = some fn)
    (witness : ∃ (w : World) (tape : Tape) (i : Input), w.os = os ∧ (w.forCall tape i).Shaped C.prog ∧ i.vars = [] ∧ Input.okWide C.prog (w.forCall tape i) .any w.heap.size f i ∧
      ((s.pre enc C.prog fn conds apart (w.forCall tape i).memory i.args ∧ X (w.forCall tape i).memory i.args) ∧ sizedMet enc C.prog fn (OpenSpec.ofChange s) apart (w.forCall tape i).memory i.args) ∧ a.holds C.prog (lone (Frame.enter C.prog f i.args .normal) [] (w.forCall tape i)))
    (contract : ∀ (W : World) (base : Nat) (args : Array Value) (ds gs : List (DataW H)) (before : List MemPlace),
      (∀ (j : Nat) t v, fn.params[j]? = some t → args[j]? = some v → Value.okWide C.prog W .any base t v) →
      DataW.Whole enc C.prog fn.params.toList s.vars apart W args.toList ds gs before →
      conds.all (PathCond.test C.prog ⟨fn.params.toList, ds, s.plain.varTypes C.prog, gs⟩) = true →
      (DataW.weightsEach C.prog (fn.params.toList ++ s.plain.varTypes C.prog) (ds ++ gs)).all (· ≤ reachBytes) = true → X W args → W.ShapedOpen C.prog →
      a.holds C.prog (lone (Frame.enter C.prog f args .normal) [] W) →
      Calls C.prog f args W fun e W' => ∃ v, e = .returned v ∧ s.post enc C.prog fn apart fresh handsOn again W args v W') :
    ReturnsInHanded a C os f .any (fun w args => (s.pre enc C.prog fn conds apart w args ∧ X w args) ∧ sizedMet enc C.prog fn (OpenSpec.ofChange s) apart w args) (s.post enc C.prog fn apart fresh handsOn again) := by
  refine returnsInHanded_of_calls own started noInit witness ?_
  intro w tape i _ hsh _ hok hpre hholds
  obtain ⟨_, _, _, fn', hfn', _, _, _, _, hval⟩ := hok
  have e : fn' = fn := Option.some.inj (hfn'.symm.trans hfn)
  subst e
  obtain ⟨⟨⟨ds, gs, before, hw, hc⟩, hx⟩, hz⟩ := hpre
  have hw' := DataW.Whole.of_heap (w' := w.forCall tape i) (by rfl) hw
  refine (contract (w.forCall tape i) w.heap.size i.args ds gs before hval hw' hc (hz.weights hw) (hX _ _ _ (by rfl) hx) hsh hholds).mono fun e W' ⟨v, he, hp⟩ => ?_
  subst he
  exact ChangeSpec.post_blind hp
theorem laid_at {P : Program} {W : World} : ∀ {laid : List (String × DataW Unit)} {ps : List MemPlace}, DataW.LaidVars P W laid ps → ∀ {n : String} {d : DataW Unit}, (n, d) ∈ laid →
    ∃ g t cs fuel p, P.globalNamed n = some g ∧ (P.globals[g]?).map (·.type) = some t ∧ W.var? P n = some cs ∧ DataW.trod (fun _ => ()) P W 0 (fun _ => true) false fuel t cs.toList = some (d, p)
  | [], _, _, _, _, h => nomatch h
  | (n', d') :: r, ps, hv, n, d, h => by
    obtain ⟨g, t, cs, fuel, p, q, h1, h2, h3, h4, h5, _⟩ := hv
    rcases List.mem_cons.1 h with e | h
    · cases e; exact ⟨g, t, cs, fuel, p, h1, h2, h3, h4⟩
    · exact laid_at h5 h
theorem heap_of_var {P : Program} {W : World} {n : String} {g : Nat} {cs : Array Value} (hg : P.globalNamed n = some g) (h : W.var? P n = some cs) : g < W.heap.size := by
  simp only [World.var?, hg, Option.bind_some] at h
  rcases Nat.lt_or_ge g W.heap.size with h' | h'
  · exact h'
  · rw [Array.getElem?_eq_none h'] at h; exact nomatch h
theorem err_of_laid {P : Program} {W : World} {laid : List (String × DataW Unit)} {n nm : String} {d : DataW Unit} {g : Nat} {ti : TypeId} {ms : Array (String × TypeId)} (h : laidMet P laid W) (hm : (n, .iface nm d) ∈ laid)
    (hg : P.globalNamed n = some g) (hty : (P.globals[g]?).map (·.type) = some ti) (hi : P.underlying ti = some (.interface ms)) : ∃ te pe, W.var? P n = some #[.iface te pe] := by
  obtain ⟨ps, hv, _⟩ := h
  obtain ⟨g', t, cs, fuel, p, k1, k2, k3, k4⟩ := laid_at hv hm
  rw [hg] at k1; cases k1
  rw [hty] at k2; cases k2
  obtain ⟨f1, u, v, e, _⟩ := iface_of_trod hi k4
  refine ⟨u, v, ?_⟩
  rw [k3]; congr 1
  exact Array.toList_inj.1 e
theorem tab_of_laid {P : Program} {W : World} {laid : List (String × DataW Unit)} {name : String} {k : IntKind} {zs : List Int} {g : Nat} {t e : TypeId} {n : Nat} (h : laidMet P laid W) (hm : (name, Lib.tabData k zs) ∈ laid)
    (hg : P.globalNamed name = some g) (hty : (P.globals[g]?).map (·.type) = some t) (ht : P.underlying t = some (.array n e)) (he : P.underlying e = some (.int k)) (hce : P.cellsOf e = 1) (hct : P.cellsOf t = n) : Lib.TabIs P W name k zs := by
  obtain ⟨ps, hv, _⟩ := h
  obtain ⟨g', t', cs, fuel, p, k1, k2, k3, k4⟩ := laid_at hv hm
  rw [hg] at k1; cases k1
  rw [hty] at k2; cases k2
  unfold Lib.TabIs
  rw [k3, ← Lib.cells_of_tab ht he hce hct k4]
theorem int_of_shape {P : Program} {w : World} {n : String} {g : Nat} {t : TypeId} {zero : Array Value} {k : IntKind} (h : w.ShapedOpen P) (hgn : P.globalNamed n = some g) (hg : g < P.globals.size)
    (h0 : ((begin P (fun _ _ => 0) default).world.heap[g]?).bind Obj.row? = some (zero, t)) (hz : zero.size = 1)
    (hb : P.buildable t = true) (hc : P.cellTypes P.depth t = some [t]) (hu : P.underlying t = some (.int k)) : ∃ m, w.var? P n = some #[.int k m] := by
  obtain ⟨m, hm⟩ := cell_of_shapedOpen_int h hg h0 hz hb hc hu
  obtain ⟨cs, hh, hs, _⟩ := h.1 g zero t hg h0
  refine ⟨m, ?_⟩
  simp only [World.var?, hgn, Option.bind_some, hh]
  simp only [World.cell?, hh] at hm
  congr 1
  rw [hz] at hs
  ext i hi hi'
  · simp [hs]
  · have : i = 0 := by omega
    subst this
    simpa using (Array.getElem?_eq_some_iff.1 (by simpa using hm)).2
end Go.Proofs.YtllpenkgaomdfaaDoor.Vm
/- What the rows' listed tables give. -/
set_option linter.all false
namespace Go.Proofs.YtllpenkgaomdfaaDoor.Vm
open Go Go.RowKit Go.Proofs.YtllpenkgaomdfaaDoor
set_option maxRecDepth 100000
theorem gPow : Tryd.prog.globalNamed "internal/strconv.uint64pow10" = some G.internal_strconv_uint64pow10 := by kernel_rfl
theorem gSyn : Tryd.prog.globalNamed "strconv.ErrSyntax" = some G.strconv_ErrSyntax := by kernel_rfl
theorem gRng : Tryd.prog.globalNamed "strconv.ErrRange" = some G.strconv_ErrRange := by kernel_rfl
theorem gLen : Tryd.prog.globalNamed "internal/bytealg.MaxLen" = some G.internal_bytealg_MaxLen := by kernel_rfl
theorem laidPow : (Rows.laid_internal_strconv_uint64pow10 : DataW Unit) = Lib.tabData .u64 Lib.pow10Tab := by kernel_rfl
theorem errIface : ∃ ms, Tryd.prog.underlying T.error = some (.interface ms) := by
  have h : (match Tryd.prog.underlying T.error with | some (.interface _) => true | _ => false) = true := by kernel_rfl
  split at h
  · rename_i ms hm; exact ⟨ms, hm⟩
  · exact nomatch h
theorem tabs_of {W : World} {laid : List (String × DataW Unit)} (h : laidMetH Tryd.prog laid W) (hp : (laid.all fun x => x.2.handleName?.isNone) = true) (m1 : ("internal/strconv.uint64pow10", Rows.laid_internal_strconv_uint64pow10) ∈ laid)
    (m2 : ("strconv.ErrSyntax", Rows.laid_strconv_ErrSyntax) ∈ laid) (m3 : ("strconv.ErrRange", Rows.laid_strconv_ErrRange) ∈ laid) (hsh : W.ShapedOpen Tryd.prog) : Tabs.ok (oldS W) W := by
  rw [MakeChecks.laidMetH_plain _ _ _ hp] at h
  rw [laidPow] at m1
  have t1 := tab_of_laid (t := T.arr20_uint64) (e := T.uint64) (n := 20) h m1 gPow (by kernel_rfl) (by kernel_rfl) (by kernel_rfl) (by kernel_rfl) (by kernel_rfl)
  obtain ⟨ms, hms⟩ := errIface
  obtain ⟨e2, p2, t2⟩ := err_of_laid (ti := T.error) h m2 gSyn (by kernel_rfl) hms
  obtain ⟨e3, p3, t3⟩ := err_of_laid (ti := T.error) h m3 gRng (by kernel_rfl) hms
  obtain ⟨m, t4⟩ := int_of_shape (t := T.int) (zero := #[.int .i64 0]) hsh gLen (by decide +kernel) (by kernel_rfl) rfl (by kernel_rfl) (by kernel_rfl) (by kernel_rfl)
  intro n q hm
  unfold tabL at hm
  simp only [List.mem_cons, List.mem_nil_iff, or_false, Prod.mk.injEq] at hm
  rcases hm with ⟨rfl, rfl⟩ | ⟨rfl, rfl⟩ | ⟨rfl, rfl⟩ | ⟨rfl, rfl⟩
  · exact ⟨_, _, gPow, fun o => heap_of_var gPow t1, t1, by decide +kernel, rfl⟩
  · exact ⟨_, _, gSyn, fun o => heap_of_var gSyn t2, t2, Nat.zero_lt_one, e2, p2, rfl⟩
  · exact ⟨_, _, gRng, fun o => heap_of_var gRng t3, t3, Nat.zero_lt_one, e3, p3, rfl⟩
  · exact ⟨_, _, gLen, fun o => heap_of_var gLen t4, t4, Nat.zero_lt_one, m, rfl⟩
end Go.Proofs.YtllpenkgaomdfaaDoor.Vm
/- Contracts: strings.Builder, over its own objects. -/
set_option linter.all false
namespace Go.Proofs.YtllpenkgaomdfaaDoor.Vm
open Go
set_option maxRecDepth 100000
set_option maxHeartbeats 4000000
/-- a builder that has been written to -/
def bldr (b : List UInt8) : List VObj := [.tbox T.builder [.ptr 0 0, .sall 1 0], .buf T.byte 0 b]
theorem ws_o (x b : List UInt8) (h : b.length + x.length ≤ 70368744177664) :
    ObjCall Tryd.prog false F.strings_Builder_WriteString [.ptr 0 0, .str x] (bldr b) (.tuple [ai x.length, .nilif]) (bldr (b ++ x)) := by
  refine objCallS fits K.strings_Builder_WriteString ?_
  repeat' (first
      | contradiction
      | ((with_reducible refine step ?_); conv => whnf) | ((with_reducible refine br_dec (fun h => ?_) (fun h => ?_)) <;> try (exfalso; omega)) | ((with_reducible refine br_ndec (fun h => ?_) (fun h => ?_)) <;> try (exfalso; omega)) | (with_reducible refine br_not (fun h => ?_) (fun h => ?_)) | (with_reducible refine And.intro (fun h => ?_) (fun h => ?_))
      | (refine And.intro ⟨rfl, by simp [big]; omega⟩ ?_; conv => whnf)
      | (refine vcall_inS fits K.strings_Builder_copyCheck rfl rfl ?_; conv => whnf)
      | fail)
  all_goals exact ⟨rfl, rfl⟩
end Go.Proofs.YtllpenkgaomdfaaDoor.Vm
/- Contracts: the text of a topology. -/
set_option linter.all false
namespace Go.Proofs.YtllpenkgaomdfaaDoor.Vm
open Go
set_option maxRecDepth 100000
set_option maxHeartbeats 4000000
/-- a number's text -/
abbrev num (n : Int) : List UInt8 := Lib.itoa n
theorem decDigits_len : ∀ (k u : Nat), u < 10 ^ (k + 1) → (Lib.decDigits u).length ≤ k + 1 := by
  intro k
  induction k with
  | zero => intro u h; rw [Lib.decDigits, dif_pos (by simpa using h)]; simp
  | succ k ih =>
    intro u h
    rw [Lib.decDigits]
    split
    · simp
    · rw [List.length_append]
      have := ih (u / 10) (by rw [Nat.div_lt_iff_lt_mul (by decide)]; rw [Nat.pow_succ] at h; exact h)
      simp; omega
theorem num_len {n : Int} (h0 : 0 ≤ n) (h1 : n ≤ 1000000000) : (num n).length ≤ 10 := by
  unfold num Lib.itoa
  rw [if_neg (by omega)]
  exact decDigits_len 9 _ (by omega)
def linkT (l : Link) : List UInt8 := [108, 105, 110, 107] ++ ([32] ++ num l.a) ++ ([32] ++ num l.b) ++ ([32] ++ num l.c0) ++ ([32] ++ num l.c1) ++ ([32] ++ num l.cap) ++ ([32] ++ num l.delay) ++ ([32] ++ num l.group) ++ [10]
def ovT1 (l : List Bool) (k : Nat) : List UInt8 := if l[k]? = some true then [111, 118, 101, 114, 108, 111, 97, 100, 32] ++ num k ++ [10] else []
def ovT (l : List Bool) (n : Nat) : List UInt8 := (List.range n).flatMap (ovT1 l)
def headT (t : Topology) : List UInt8 := [110, 111, 100, 101, 115, 32] ++ num t.nodes ++ [10]
def textT (t : Topology) : List UInt8 := headT t ++ ovT t.overload t.overload.length ++ t.links.flatMap linkT
def NumC : Prop := ∀ n : Int, 0 ≤ n → n ≤ 1000000000 → PureCall Tryd.prog F.strconv_Itoa [ai n] (.str (num n))

theorem ovT1_len (l : List Bool) (k : Nat) (h : k ≤ 1000) : (ovT1 l k).length ≤ 20 := by
  unfold ovT1
  split
  · have := num_len (n := (k : Int)) (by omega) (by omega)
    simp; omega
  · simp
theorem ovT_succ (l : List Bool) (n : Nat) : ovT l (n + 1) = ovT l n ++ ovT1 l n := by
  unfold ovT; rw [List.range_succ, List.flatMap_append]; simp
theorem ovT_len (l : List Bool) : ∀ (n : Nat), n ≤ 1000 → (ovT l n).length ≤ 20 * n := by
  intro n
  induction n with
  | zero => intro _; simp [ovT]
  | succ n ih =>
    intro h
    rw [ovT_succ, List.length_append]
    have := ovT1_len l n (by omega)
    have := ih (by omega)
    omega
structure LinkOk (l : Link) : Prop where
  a0 : 0 ≤ l.a
  a1 : l.a ≤ 1000000000
  b0 : 0 ≤ l.b
  b1 : l.b ≤ 1000000000
  c0 : 0 ≤ l.c0
  c1 : l.c0 ≤ 1000000000
  d0 : 0 ≤ l.c1
  d1 : l.c1 ≤ 1000000000
  e0 : 0 ≤ l.cap
  e1 : l.cap ≤ 1000000000
  f0 : 0 ≤ l.delay
  f1 : l.delay ≤ 1000000000
  g0 : 0 ≤ l.group
  g1 : l.group ≤ 1000000000
theorem valid_link {t : Topology} (h : t.valid = true) {l : Link} (hl : l ∈ t.links) : LinkOk l := by
  have hn := valid_nodes h
  simp only [Topology.valid, Bool.and_eq_true, List.all_eq_true] at h
  have := h.2 l hl
  have hw : IntKind.i64.wrap (t.nodes - 1) = t.nodes - 1 := wrap_in (by omega)
  simp only [hw, Link.proper, Bool.and_eq_true, decide_eq_true_eq, Bool.not_eq_true', decide_eq_false_iff_not] at this
  constructor <;> omega
theorem valid_over {t : Topology} (h : t.valid = true) : t.overload.length ≤ 64 := by
  have hn := valid_nodes h
  simp only [Topology.valid, Bool.and_eq_true, Bool.or_eq_true, decide_eq_true_eq] at h
  omega
theorem linkT_len {l : Link} (h : LinkOk l) : (linkT l).length ≤ 100 := by
  have h1 := num_len h.a0 h.a1
  have h2 := num_len h.b0 h.b1
  have h3 := num_len h.c0 h.c1
  have h4 := num_len h.d0 h.d1
  have h5 := num_len h.e0 h.e1
  have h6 := num_len h.f0 h.f1
  have h7 := num_len h.g0 h.g1
  simp [linkT]; omega
theorem linksT_len : ∀ (ls : List Link), (∀ l ∈ ls, LinkOk l) → (ls.flatMap linkT).length ≤ 100 * ls.length := by
  intro ls
  induction ls with
  | nil => intro _; simp
  | cons l ls ih =>
    intro h
    rw [List.flatMap_cons, List.length_append, List.length_cons]
    have := linkT_len (h l (by simp))
    have := ih fun x hx => h x (by simp [hx])
    omega

end Go.Proofs.YtllpenkgaomdfaaDoor.Vm
/- Contracts: components' arcs. -/
set_option linter.all false
namespace Go.Proofs.YtllpenkgaomdfaaDoor.Vm
open Go
set_option maxRecDepth 100000
set_option maxHeartbeats 4000000

/-- of an arc, by its number -/
def Comp.arcN (t : Topology) (c : Comp) (a : Nat) : Bool := c.has ((a / 2 : Nat) : Int) (t.links.getD (a / 2) default)
theorem arcN_eq (t : Topology) (c : Comp) (a : Nat) : c.arc t (a : Int) = c.arcN t a := by
  have e : ((a : Int) / 2) = ((a / 2 : Nat) : Int) := by omega
  simp only [Comp.arc, Comp.arcN, Topology.at_, e, Int.toNat_natCast]
def maskF (n : Nat) (f : Nat → Bool) : List Bool := (List.range n).map f
def eMask (n : Nat) (f : Nat → Bool) : List (List AV) := (List.range n).map fun a => [.bool (f a)]
theorem eMask_eq (n : Nat) (f : Nat → Bool) : (maskF n f).map eBool = eMask n f := by simp [maskF, eMask, eBool]
theorem eMask_len (n : Nat) (f : Nat → Bool) : (eMask n f).length = n := by simp [eMask]
theorem eMask_zero (n : Nat) : eMask n (fun _ => false) = List.replicate n [.bool false] := by simp [eMask, List.map_const']
theorem eMask_get {n a : Nat} (f : Nat → Bool) (h : a < n) : (eMask n f)[a]? = some [.bool (f a)] := by simp [eMask, h]
theorem eMask_set (n a : Nat) (f : Nat → Bool) : (eMask n f).set a [.bool true] = eMask n (fun k => f k || decide (k = a)) := by
  apply List.ext_getElem?
  intro k
  rw [List.getElem?_set]
  by_cases hk : k < n
  · rw [eMask_get _ hk, eMask_get _ hk, eMask_len]
    by_cases e : a = k
    · subst e; rw [if_pos rfl, if_pos hk]; simp
    · rw [if_neg e]; simp [show ¬ k = a by omega]
  · have h1 : (eMask n f)[k]? = none := List.getElem?_eq_none (by rw [eMask_len]; omega)
    have h2 : (eMask n (fun k => f k || decide (k = a)))[k]? = none := List.getElem?_eq_none (by rw [eMask_len]; omega)
    rw [h1, h2, eMask_len]
    split
    · split
      · omega
      · rfl
    · rfl
theorem eMask_congr {n : Nat} {f g : Nat → Bool} (h : ∀ a, a < n → f a = g a) : eMask n f = eMask n g := by
  unfold eMask; apply List.map_congr_left; intro a ha; rw [h a (List.mem_range.1 ha)]

def unionB (t : Topology) (cs : List Comp) : List Bool × Int :=
  if t.valid = true ∧ cs.all (·.valid t) = true then (maskF (2 * t.links.length) fun a => cs.any fun c => c.arcN t a, 0) else ([], 1)
theorem all_no {cs : List Comp} {t : Topology} {j : Nat} (hj : j < cs.length) (h : (cs[j]).valid t = false) : cs.all (·.valid t) = false := by
  rw [List.all_eq_false]; exact ⟨cs[j], List.getElem_mem hj, by simp [h]⟩
theorem take_any {cs : List Comp} {t : Topology} {j : Nat} (hj : j < cs.length) (a : Nat) : (cs.take (j + 1)).any (fun c => c.arcN t a) = ((cs.take j).any (fun c => c.arcN t a) || (cs[j]).arcN t a) := by
  rw [List.take_succ_eq_append_getElem hj, List.any_append]; simp
theorem all_take {cs : List Comp} {t : Topology} {j : Nat} (hj : j < cs.length) (h : (cs.take j).all (·.valid t) = true) (h1 : (cs[j]).valid t = true) : (cs.take (j + 1)).all (·.valid t) = true := by
  rw [List.take_succ_eq_append_getElem hj, List.all_append, h]; simp [h1]

theorem arcN_has {t : Topology} {c : Comp} {i a : Nat} (hi : i < t.links.length) (ha : a / 2 = i) {b : Bool} (h : c.has (i : Int) t.links[i] = b) : c.arcN t a = b := by
  rw [Comp.arcN, ha, getD_at hi]; exact h
theorem mask_yes {t : Topology} {c : Comp} {X : Nat → Bool} {i : Nat} (hi : i < t.links.length) (h : c.has (i : Int) t.links[i] = true) (a : Nat) :
    (((X a || (decide (a / 2 < i) && c.arcN t a)) || decide (a = 2 * i)) || decide (a = 2 * i + 1)) = (X a || (decide (a / 2 < i + 1) && c.arcN t a)) := by
  by_cases e : a / 2 = i
  · rw [arcN_has hi e h, decide_eq_true (show a / 2 < i + 1 by omega), decide_eq_false (show ¬ a / 2 < i by omega)]
    rcases (show a = 2 * i ∨ a = 2 * i + 1 by omega) with h2 | h2
    · rw [decide_eq_true h2]; simp
    · rw [decide_eq_true h2]; simp
  · rw [decide_eq_false (show ¬ a = 2 * i by omega), decide_eq_false (show ¬ a = 2 * i + 1 by omega), show decide (a / 2 < i + 1) = decide (a / 2 < i) from decide_eq_decide.2 (by omega)]; simp
theorem mask_no {t : Topology} {c : Comp} {X : Nat → Bool} {i : Nat} (hi : i < t.links.length) (h : c.has (i : Int) t.links[i] = false) (a : Nat) :
    (X a || (decide (a / 2 < i) && c.arcN t a)) = (X a || (decide (a / 2 < i + 1) && c.arcN t a)) := by
  by_cases e : a / 2 = i
  · rw [arcN_has hi e h]; simp
  · rw [show decide (a / 2 < i + 1) = decide (a / 2 < i) from decide_eq_decide.2 (by omega)]
end Go.Proofs.YtllpenkgaomdfaaDoor.Vm
/- Contracts: components' arcs, masks. -/
set_option linter.all false
namespace Go.Proofs.YtllpenkgaomdfaaDoor.Vm
open Go
set_option maxRecDepth 100000
set_option maxHeartbeats 4000000

def sel (f : Nat → Bool) (i : Nat) : List Int := (((List.range i).filter f : List Nat)).map fun (a : Nat) => (a : Int)
theorem sel_len (f : Nat → Bool) (i : Nat) : (sel f i).length ≤ i := by
  unfold sel; rw [List.length_map]; exact Nat.le_trans (List.length_filter_le _ _) (by simp)
theorem sel_yes {f : Nat → Bool} {i : Nat} (h : f i = true) : sel f (i + 1) = sel f i ++ [(i : Int)] := by
  simp [sel, List.range_succ, List.filter_append, h]
theorem sel_no {f : Nat → Bool} {i : Nat} (h : f i = false) : sel f (i + 1) = sel f i := by
  simp [sel, List.range_succ, List.filter_append, h]
def arcsB (t : Topology) (c : Comp) : List Int × Int := if c.valid t = true then (sel (c.arcN t) (2 * t.links.length), 0) else ([], 1)
theorem union_one (t : Topology) (c : Comp) : unionB t [c] = if c.valid t = true then (maskF (2 * t.links.length) (c.arcN t), 0) else ([], 1) := by
  unfold unionB
  by_cases h : c.valid t = true
  · rw [if_pos ⟨validC_links h, by simp [h]⟩, if_pos h]; simp
  · rw [if_neg (fun hq => h (by simpa using hq.2)), if_neg h]

end Go.Proofs.YtllpenkgaomdfaaDoor.Vm
/- Contracts: all components. -/
set_option linter.all false
namespace Go.Proofs.YtllpenkgaomdfaaDoor.Vm
open Go
set_option maxRecDepth 100000
set_option maxHeartbeats 4000000

def nums (k : Int) (i : Nat) : List Comp := (List.range i).map fun (a : Nat) => (⟨k, a⟩ : Comp)
theorem nums_len (k : Int) (i : Nat) : (nums k i).length = i := by simp [nums]
theorem nums_succ (k : Int) (i : Nat) : nums k (i + 1) = nums k i ++ [⟨k, (i : Nat)⟩] := by simp [nums, List.range_succ]
def hasG (t : Topology) (g : Int) : Bool := t.links.any fun l => decide (l.group = g)
def grps (t : Topology) (i : Nat) : List Comp := ((List.range i).filter fun (a : Nat) => hasG t ((a : Int) + 1)).map fun (a : Nat) => (⟨3, (a : Int) + 1⟩ : Comp)
theorem grps_len (t : Topology) (i : Nat) : (grps t i).length ≤ i := by
  unfold grps; rw [List.length_map]; exact Nat.le_trans (List.length_filter_le _ _) (by simp)
theorem grps_yes {t : Topology} {i : Nat} (h : hasG t ((i : Int) + 1) = true) : grps t (i + 1) = grps t i ++ [⟨3, (i : Int) + 1⟩] := by
  simp [grps, List.range_succ, List.filter_append, h]
theorem grps_no {t : Topology} {i : Nat} (h : hasG t ((i : Int) + 1) = false) : grps t (i + 1) = grps t i := by
  simp [grps, List.range_succ, List.filter_append, h]
def compsB (t : Topology) : List Comp := if t.valid = true then nums 1 t.links.length ++ nums 2 t.nodes.toNat ++ grps t 64 else []
theorem hasG_no {t : Topology} {g : Int} {i : Nat} (hi : t.links.length ≤ i) (h : ∀ k < i, (t.links.getD k default).group ≠ g) : hasG t g = false := by
  rw [hasG, List.any_eq_false]
  intro l hl
  obtain ⟨k, hk, rfl⟩ := List.getElem_of_mem hl
  have := h k (by omega)
  rw [getD_at hk] at this
  simpa using this
theorem hasG_yes {t : Topology} {g : Int} {i : Nat} (hi : i < t.links.length) (h : t.links[i].group = g) : hasG t g = true := by
  rw [hasG, List.any_eq_true]; exact ⟨t.links[i], List.getElem_mem hi, by simpa using h⟩

theorem sel_pos {f : Nat → Bool} {n : Nat} : 0 < (sel f n).length ↔ ∃ a, a < n ∧ f a = true := by
  rw [sel, List.length_map, List.length_pos_iff_exists_mem]
  simp [List.mem_filter, List.mem_range]
theorem grp_pos {t : Topology} (hv : t.valid = true) {g : Int} (h1 : 1 ≤ g) (h2 : g ≤ 64) : 0 < (arcsB t ⟨3, g⟩).1.length ↔ hasG t g = true := by
  have hc : Comp.valid t ⟨3, g⟩ = true := by simp [Comp.valid, hv, h1, h2]
  rw [arcsB, if_pos hc]
  show 0 < (sel (Comp.arcN t ⟨3, g⟩) (2 * t.links.length)).length ↔ _
  rw [sel_pos]
  constructor
  · rintro ⟨a, ha, hf⟩
    have hlt : a / 2 < t.links.length := by omega
    refine hasG_yes hlt ?_
    rw [Comp.arcN, getD_at hlt] at hf
    simpa [Comp.has] using hf
  · intro hg
    rw [hasG, List.any_eq_true] at hg
    obtain ⟨l, hl, hq⟩ := hg
    obtain ⟨k, hk, rfl⟩ := List.getElem_of_mem hl
    refine ⟨2 * k, by omega, ?_⟩
    simpa [Comp.arcN, Comp.has, show 2 * k / 2 = k by omega, hk] using hq

end Go.Proofs.YtllpenkgaomdfaaDoor.Vm
/- Contracts: the example that every statement of the set 10 checks first. -/
set_option linter.all false
namespace Go.Proofs.YtllpenkgaomdfaaDoor.Vm
open Go
set_option maxRecDepth 100000
set_option maxHeartbeats 4000000

def ex10 : Topology := ⟨3, [], [⟨0, 1, 1, 1, 0, 1, 1⟩, ⟨1, 2, 1, 1, 0, 1, 0⟩, ⟨2, 0, 1, 1, 0, 1, 1⟩]⟩
theorem small_c : PureCall Tryd.prog F.internal_strconv_small [ai 1] (.str [49]) := by
  refine contractS fits K.internal_strconv_small ?_
  repeat' (first
      | ((with_reducible refine step ?_); conv => whnf) | ((with_reducible refine br_dec (fun h => ?_) (fun h => ?_)) <;> try (exfalso; omega)) | ((with_reducible refine br_ndec (fun h => ?_) (fun h => ?_)) <;> try (exfalso; omega)) | (with_reducible refine br_not (fun h => ?_) (fun h => ?_)) | (with_reducible refine And.intro (fun h => ?_) (fun h => ?_))
      | (refine And.intro (by decide) ?_; conv => whnf)
      | fail)
  all_goals rfl
theorem formatInt_c : PureCall Tryd.prog F.internal_strconv_FormatInt [ai 1, ai 10] (.str [49]) := by
  refine contractS fits K.internal_strconv_FormatInt ?_
  repeat' (first
      | ((with_reducible refine step ?_); conv => whnf) | ((with_reducible refine br_dec (fun h => ?_) (fun h => ?_)) <;> try (exfalso; omega)) | ((with_reducible refine br_ndec (fun h => ?_) (fun h => ?_)) <;> try (exfalso; omega)) | (with_reducible refine br_not (fun h => ?_) (fun h => ?_)) | (with_reducible refine And.intro (fun h => ?_) (fun h => ?_))
      | (refine call_pure small_c rfl rfl ?_; conv => whnf)
      | fail)
  all_goals rfl
theorem itoa0_c : PureCall Tryd.prog F.internal_strconv_Itoa [ai 1] (.str [49]) := by
  refine contractS fits K.internal_strconv_Itoa ?_
  repeat' (first
      | ((with_reducible refine step ?_); conv => whnf) | ((with_reducible refine br_dec (fun h => ?_) (fun h => ?_)) <;> try (exfalso; omega)) | ((with_reducible refine br_ndec (fun h => ?_) (fun h => ?_)) <;> try (exfalso; omega)) | (with_reducible refine br_not (fun h => ?_) (fun h => ?_)) | (with_reducible refine And.intro (fun h => ?_) (fun h => ?_))
      | (refine call_pure formatInt_c rfl rfl ?_; conv => whnf)
      | fail)
  all_goals rfl
theorem itoa_c : PureCall Tryd.prog F.strconv_Itoa [ai 1] (.str [49]) := by
  refine contractS fits K.strconv_Itoa ?_
  repeat' (first
      | ((with_reducible refine step ?_); conv => whnf) | ((with_reducible refine br_dec (fun h => ?_) (fun h => ?_)) <;> try (exfalso; omega)) | ((with_reducible refine br_ndec (fun h => ?_) (fun h => ?_)) <;> try (exfalso; omega)) | (with_reducible refine br_not (fun h => ?_) (fun h => ?_)) | (with_reducible refine And.intro (fun h => ?_) (fun h => ?_))
      | (refine call_pure itoa0_c rfl rfl ?_; conv => whnf)
      | fail)
  all_goals rfl
end Go.Proofs.YtllpenkgaomdfaaDoor.Vm
/- The statements of the set 10. -/
set_option linter.all false
namespace Go.Proofs.YtllpenkgaomdfaaDoor.Vm
open Go
set_option maxRecDepth 100000
set_option maxHeartbeats 4000000

theorem arcsB_len (t : Topology) (c : Comp) : (arcsB t c).1.length ≤ 2 * t.links.length := by
  unfold arcsB; split
  · exact sel_len ..
  · exact Nat.zero_le _
theorem unionB_len (t : Topology) (cs : List Comp) : (unionB t cs).1.length ≤ 2 * t.links.length := by
  unfold unionB; split
  · simp [maskF]
  · exact Nat.zero_le _
theorem not_large {t : Topology} (h : (decide (200 < t.overload.length) || decide (300 < t.links.length)) = false) : t.links.length ≤ 300 := by
  simp at h; omega

theorem comps_valid {t : Topology} (hv : t.valid = true) {c : Comp} (hc : c ∈ compsB t) : c.valid t = true := by
  have hnn := valid_nodes hv
  rw [compsB, if_pos hv] at hc
  simp only [List.mem_append, nums, grps, List.mem_map, List.mem_range, List.mem_filter] at hc
  rcases hc with (⟨a, ha, rfl⟩ | ⟨a, ha, rfl⟩) | ⟨a, ha, rfl⟩
  · simp [Comp.valid, hv]; omega
  · simp [Comp.valid, hv]; omega
  · simp [Comp.valid, hv]; omega
theorem comps_valid' {t : Topology} {c : Comp} (hc : c ∈ compsB t) : c.valid t = true := by
  by_cases hv : t.valid = true
  · exact comps_valid hv hc
  · rw [compsB, if_neg hv] at hc; simp at hc
theorem within_iff {t : Topology} {c d : Comp} : withinB t c d = true ↔ c.valid t = true ∧ d.valid t = true ∧ ∀ i (hi : i < t.links.length), c.has i t.links[i] = true → d.has i t.links[i] = true := by
  rw [withinB, Bool.and_eq_true, Bool.and_eq_true, List.all_eq_true]
  constructor
  · rintro ⟨⟨h1, h2⟩, h⟩
    refine ⟨h1, h2, fun i hi hc => ?_⟩
    have := h i (List.mem_range.2 hi)
    rw [getD_at hi, hc] at this
    simpa using this
  · rintro ⟨h1, h2, h⟩
    refine ⟨⟨h1, h2⟩, fun i hi => ?_⟩
    have hi := List.mem_range.1 hi
    rw [getD_at hi]
    cases hc : c.has i t.links[i] with
    | false => rfl
    | true => rw [h i hi hc]; rfl
theorem within_trans {t : Topology} {a b c : Comp} (h1 : withinB t a b = true) (h2 : withinB t b c = true) : withinB t a c = true := by
  rw [within_iff] at *
  exact ⟨h1.1, h2.2.1, fun i hi h => h2.2.2 i hi (h1.2.2 i hi h)⟩
theorem within_refl (t : Topology) (a : Comp) : withinB t a a = a.valid t := by
  rw [Bool.eq_iff_iff, within_iff]
  exact ⟨fun h => h.1, fun h => ⟨h, h, fun _ _ q => q⟩⟩
theorem within_link {t : Topology} (hv : t.valid = true) {i : Nat} (hi : i < t.links.length) : withinB t ⟨1, i⟩ ⟨2, t.links[i].a⟩ = true ∧ withinB t ⟨1, i⟩ ⟨2, t.links[i].b⟩ = true ∧ (t.links[i].group ≠ 0 → withinB t ⟨1, i⟩ ⟨3, t.links[i].group⟩ = true) := by
  have hnn := valid_nodes hv
  have hp : t.links[i].proper t.nodes = true := by
    have hv' := hv
    simp only [Topology.valid, Bool.and_eq_true, List.all_eq_true] at hv'
    exact hv'.2 _ (List.getElem_mem hi)
  simp only [Link.proper, Bool.and_eq_true, decide_eq_true_eq] at hp
  rw [wrap_in (by omega)] at hp
  have h1 : Comp.valid t ⟨1, (i : Int)⟩ = true := by simp [Comp.valid, hv]; omega
  refine ⟨within_iff.2 ⟨h1, ?_, fun k hk h => ?_⟩, within_iff.2 ⟨h1, ?_, fun k hk h => ?_⟩, fun hg => within_iff.2 ⟨h1, ?_, fun k hk h => ?_⟩⟩
  · simp [Comp.valid, hv]; omega
  · have : k = i := by have h : (k : Int) = i := (by simpa [Comp.has] using h); omega
    subst this; simp [Comp.has]
  · simp [Comp.valid, hv]; omega
  · have : k = i := by have h : (k : Int) = i := (by simpa [Comp.has] using h); omega
    subst this; simp [Comp.has]
  · simp [Comp.valid, hv]; omega
  · have : k = i := by have h : (k : Int) = i := (by simpa [Comp.has] using h); omega
    subst this; simp [Comp.has]

end Go.Proofs.YtllpenkgaomdfaaDoor.Vm
/- Contracts: topology. -/
set_option linter.all false
namespace Go.Proofs.YtllpenkgaomdfaaDoor.Vm
open Go
set_option maxRecDepth 100000
set_option maxHeartbeats 4000000

def pathL (t : Topology) : Nat → Int → Int → List Int → Int × Int × Int
  | _, n, c, [] => (n, c, 0)
  | i, n, c, a :: l => if t.tail a < 0 then (0, 0, 2) else if t.tail a ≠ n ∨ (0 < i ∧ t.ovl n = true) then (0, 0, 4) else pathL t (i + 1) (t.head a) (IntKind.i64.wrap (c + t.cost a)) l
def pathR (t : Topology) (n : Int) (l : List Int) : Int × Int × Int := if t.valid = false then (0, 0, 1) else if n < 0 ∨ t.nodes ≤ n then (0, 0, 2) else pathL t 0 n 0 l
def pathS (t : Topology) (n : Int) (l : List Int) (i : Nat) : Int × Int := (l.take i).foldl (fun s a => (t.head a, IntKind.i64.wrap (s.2 + t.cost a))) (n, 0)
theorem pathS_succ {t : Topology} {n : Int} {l : List Int} {i : Nat} (h : i < l.length) : pathS t n l (i + 1) = (t.head l[i], IntKind.i64.wrap ((pathS t n l i).2 + t.cost l[i])) := by
  rw [pathS, List.take_succ_eq_append_getElem h, List.foldl_append]; rfl
def ePath (r : Int × Int × Int) : AV := .tuple [ai r.1, ai r.2.1, ai r.2.2]
def pathI (t : Topology) (n : Int) (l : List Int) (i : Nat) : Prop := pathL t 0 n 0 l = pathL t i (pathS t n l i).1 (pathS t n l i).2 (l.drop i)
theorem pathI_next {t : Topology} {n : Int} {l : List Int} {i : Nat} (h : i < l.length) (hp : pathI t n l i) (h1 : ¬ t.tail l[i] < 0) (h2 : t.tail l[i] = (pathS t n l i).1) (h3 : 0 < i → t.ovl (pathS t n l i).1 = false) : pathI t n l (i + 1) := by
  unfold pathI at hp ⊢
  rw [hp, List.drop_eq_getElem_cons h, pathL, if_neg h1, if_neg (fun hq => by
    rcases hq with hq | ⟨q1, q2⟩
    · exact hq h2
    · rw [h3 q1] at q2; exact nomatch q2), pathS_succ h]
theorem pathI_two {t : Topology} {n : Int} {l : List Int} {i : Nat} (h : i < l.length) (hp : pathI t n l i) (h1 : t.tail l[i] < 0) : pathL t 0 n 0 l = (0, 0, 2) := by
  unfold pathI at hp
  rw [hp, List.drop_eq_getElem_cons h, pathL, if_pos h1]
theorem pathI_four {t : Topology} {n : Int} {l : List Int} {i : Nat} (h : i < l.length) (hp : pathI t n l i) (h1 : ¬ t.tail l[i] < 0) (h2 : t.tail l[i] ≠ (pathS t n l i).1 ∨ (0 < i ∧ t.ovl (pathS t n l i).1 = true)) : pathL t 0 n 0 l = (0, 0, 4) := by
  unfold pathI at hp
  rw [hp, List.drop_eq_getElem_cons h, pathL, if_neg h1, if_pos h2]
theorem pathI_end {t : Topology} {n : Int} {l : List Int} {i : Nat} (h : l.length ≤ i) (hp : pathI t n l i) : pathL t 0 n 0 l = ((pathS t n l i).1, (pathS t n l i).2, 0) := by
  unfold pathI at hp
  rw [hp, List.drop_of_length_le h, pathL]
theorem tail_neg {t : Topology} (hv : t.valid = true) {a : Int} : t.tail a < 0 ↔ a < 0 ∨ t.arcs ≤ a := by
  constructor
  · intro h
    by_cases h1 : a < 0
    · exact .inl h1
    · by_cases h2 : t.arcs ≤ a
      · exact .inr h2
      · have := ends_range (t := t) (a := a) (by omega) (by omega); omega
  · intro h
    rw [Topology.tail, if_pos h]; decide

theorem sel_two (f : Nat → Bool) (i : Nat) : sel f (2 * (i + 1)) = sel f (2 * i) ++ ((if f (2 * i) = true then [2 * (i : Int)] else []) ++ (if f (2 * i + 1) = true then [2 * (i : Int) + 1] else [])) := by
  have e1 : sel f (2 * i + 1) = sel f (2 * i) ++ (if f (2 * i) = true then [2 * (i : Int)] else []) := by
    cases h : f (2 * i) with
    | true => rw [sel_yes h, if_pos rfl]; simp
    | false => rw [sel_no h]; simp
  have e2 : sel f (2 * i + 1 + 1) = sel f (2 * i + 1) ++ (if f (2 * i + 1) = true then [2 * (i : Int) + 1] else []) := by
    cases h : f (2 * i + 1) with
    | true => rw [sel_yes h, if_pos rfl]; simp
    | false => rw [sel_no h]; simp
  rw [show 2 * (i + 1) = 2 * i + 1 + 1 by omega, e2, e1, List.append_assoc]
theorem ends_at {t : Topology} (hv : t.valid = true) {i : Nat} (hi : i < t.links.length) : t.tail ((2 * i : Nat) : Int) = t.links[i].a ∧ t.tail ((2 * i + 1 : Nat) : Int) = t.links[i].b ∧ t.head ((2 * i : Nat) : Int) = t.links[i].b ∧ t.head ((2 * i + 1 : Nat) : Int) = t.links[i].a := by
  have ha : t.arcs = 2 * t.links.length := by simp [Topology.arcs, hv]
  have h1 : t.at_ ((2 * i : Nat) : Int) = t.links[i] := by
    unfold Topology.at_; rw [show (((2 * i : Nat) : Int) / 2).toNat = i by omega, getD_at hi]
  have h2 : t.at_ ((2 * i + 1 : Nat) : Int) = t.links[i] := by
    unfold Topology.at_; rw [show (((2 * i + 1 : Nat) : Int) / 2).toNat = i by omega, getD_at hi]
  refine ⟨?_, ?_, ?_, ?_⟩
  · rw [Topology.tail, if_neg (by omega), if_pos (by omega), h1]
  · rw [Topology.tail, if_neg (by omega), if_neg (by omega), h2]
  · rw [Topology.head, if_neg (by omega), if_pos (by omega), h1]
  · rw [Topology.head, if_neg (by omega), if_neg (by omega), h2]
def endOf (t : Topology) (out : Bool) (a : Int) : Int := if out then t.tail a else t.head a
theorem arcs_sel {t : Topology} (hv : t.valid = true) (n : Int) (out : Bool) : ∀ i, i ≤ t.links.length → arcsN n out 0 (t.links.take i) = sel (fun a => decide (endOf t out (a : Nat) = n)) (2 * i) := by
  intro i
  induction i with
  | zero => intro _; rfl
  | succ i ih =>
    intro hi
    have hlt : i < t.links.length := by omega
    rw [List.take_succ_eq_append_getElem hlt, arcsN_snoc, ih (by omega), sel_two, List.length_take, Nat.min_eq_left (by omega), Nat.zero_add]
    congr 1
    obtain ⟨q1, q2, q3, q4⟩ := ends_at hv hlt
    have hne := (valid_ne hv (List.getElem_mem hlt)).1
    cases out
    · simp only [endOf, Bool.false_eq_true, if_false, q3, q4, arcOf, decide_eq_true_eq]
      by_cases h1 : t.links[i].a = n
      · have h2 : ¬ t.links[i].b = n := fun e => hne (h1.trans e.symm)
        simp [h1, h2]
      · by_cases h2 : t.links[i].b = n
        · simp [h1, h2]
        · simp [h1, h2]
    · simp only [endOf, if_true, q1, q2, arcOf, decide_eq_true_eq]
      by_cases h1 : t.links[i].a = n
      · have h2 : ¬ t.links[i].b = n := fun e => hne (h1.trans e.symm)
        simp [h1, h2]
      · by_cases h2 : t.links[i].b = n
        · simp [h1, h2]
        · simp [h1, h2]
theorem arcs1_sel (t : Topology) (n : Int) (out : Bool) : t.arcs1 n out = sel (fun a => decide (endOf t out (a : Nat) = n)) t.arcs.toNat := by
  unfold Topology.arcs1 Topology.arcs
  by_cases hv : t.valid = true
  · rw [if_pos hv, if_pos hv, show (2 * (t.links.length : Int)).toNat = 2 * t.links.length by omega, ← arcs_sel hv n out _ (Nat.le_refl _), List.take_length]
  · rw [if_neg hv, if_neg hv]; rfl
theorem arcs_bound (t : Topology) : 0 ≤ t.arcs ∧ t.arcs ≤ 512 := by
  unfold Topology.arcs
  split
  · have := valid_links ‹_›; omega
  · omega
end Go.Proofs.YtllpenkgaomdfaaDoor.Vm
/- The statements of the set 09, but for its self-check. -/
set_option linter.all false
namespace Go.Proofs.YtllpenkgaomdfaaDoor.Vm
open Go
set_option maxRecDepth 100000
set_option maxHeartbeats 4000000
theorem arcs1_le (t : Topology) (n : Int) (out : Bool) : (t.arcs1 n out).length < 4611686018427387904 := by
  have := arcs_bound t
  rw [arcs1_sel]
  have := sel_len (fun a => decide (endOf t out (a : Nat) = n)) t.arcs.toNat
  omega
end Go.Proofs.YtllpenkgaomdfaaDoor.Vm
/- Contracts: ends of segments. -/
set_option linter.all false
namespace Go.Proofs.YtllpenkgaomdfaaDoor.Vm
open Go
set_option maxRecDepth 100000
set_option maxHeartbeats 4000000
/-- the end of a segment that begins at a node, and the error -/
def endR (t : Topology) (s : Segment) (n : Int) : Int × Int :=
  if s.valid t = false then (0, 1) else if n < 0 ∨ t.nodes ≤ n then (0, 2) else if s.kind = 1 then (s.num, 0) else if s.kind ≠ 2 then (0, 7) else if t.tail s.num ≠ n then (0, 4) else (t.head s.num, 0)
def endsL (t : Topology) : Int → List Segment → List Int × Int
  | _, [] => ([], 0)
  | n, s :: l => if (endR t s n).2 ≠ 0 then ([], (endR t s n).2) else if (endsL t (endR t s n).1 l).2 ≠ 0 then ([], (endsL t (endR t s n).1 l).2) else ((endR t s n).1 :: (endsL t (endR t s n).1 l).1, 0)
def endsR (t : Topology) (l : List Segment) (n : Int) : List Int × Int :=
  if t.valid = false then ([], 1) else if n < 0 ∨ t.nodes ≤ n then ([], 2) else endsL t n l
def joinE (out : List Int) (q : List Int × Int) : List Int × Int := if q.2 ≠ 0 then ([], q.2) else (out ++ q.1, 0)
theorem endsL_err {t : Topology} {n : Int} {s : Segment} {l : List Segment} {out : List Int} (h : (endR t s n).2 ≠ 0) : joinE out (endsL t n (s :: l)) = ([], (endR t s n).2) := by
  have : endsL t n (s :: l) = ([], (endR t s n).2) := by rw [endsL, if_pos h]
  rw [this, joinE, if_pos h]
theorem endsL_ok {t : Topology} {n : Int} {s : Segment} {l : List Segment} {out : List Int} (h : (endR t s n).2 = 0) : joinE out (endsL t n (s :: l)) = joinE (out ++ [(endR t s n).1]) (endsL t (endR t s n).1 l) := by
  rw [endsL, if_neg (by simp [h])]
  by_cases h2 : (endsL t (endR t s n).1 l).2 ≠ 0
  · rw [if_pos h2, joinE, if_pos h2, joinE, if_pos h2]
  · rw [if_neg h2, joinE, if_neg (by simp), joinE, if_neg h2]; simp
theorem endsL_start (t : Topology) (n : Int) (l : List Segment) : endsL t n l = joinE [] (endsL t n l) := by
  unfold joinE
  split
  · rename_i h
    cases l with
    | nil => exact absurd rfl h
    | cons s l =>
      rw [endsL] at h ⊢
      split at h
      · rename_i h1; rw [if_pos h1]
      · split at h
        · rename_i h1 h2; rw [if_neg h1, if_pos h2]
        · exact absurd rfl h
  · rename_i h
    cases l with
    | nil => rfl
    | cons s l =>
      rw [endsL] at h ⊢
      split at h
      · rename_i h1; exact absurd h1 h
      · split at h
        · rename_i h1 h2; exact absurd h2 h
        · rename_i h1 h2; rw [if_neg h1, if_neg h2]; rfl
end Go.Proofs.YtllpenkgaomdfaaDoor.Vm
/- Contracts: the program's expansion. -/
set_option linter.all false
namespace Go.Proofs.YtllpenkgaomdfaaDoor.Vm
open Go
set_option maxRecDepth 100000

def eSegs (l : List Segment) : AV := asl (l.map Segment.enc)
def polL (ps : List Policy) : List ((Int × Int) × List Segment) := ps.map fun p => (p.key, p.list)
def opnL (opn : List (Int × Int)) : List ((Int × Int) × Bool) := opn.map fun k => (k, true)
/-- the objects of an expansion: the receiver, the policies, those that are open, what was kept -/
def xS (t : Topology) (ps : List Policy) (opn : List (Int × Int)) (s : Exp) : List VObj :=
  [.box [ai t.nodes, asl (t.overload.map eBool), asl (t.links.map Link.enc), .map 1, .map 2, ai s.at_, .sall 3 0] false, .map 0 0 (eMap eSegs (polL ps)), .map 0 0 (eMap eB (opnL opn)), .arr 0 2 none (s.out.map Segment.enc) false]
def keepP (s : Exp) (x : Segment) : Exp × Int := if s.out.length = 32 then (s, 6) else (⟨s.out ++ [x], s.at_⟩, 0)
theorem keepP_len {s : Exp} {x : Segment} (h : s.out.length ≤ 32) : (keepP s x).1.out.length ≤ 32 := by
  unfold keepP; split
  · exact h
  · simp; omega

def oneP (t : Topology) (ps : List Policy) (opn : List (Int × Int)) (s : Exp) (x : Segment) (deep : List Segment → Exp × Int) : Exp × Int :=
  if x.kind = 1 then keepP ⟨s.out, x.num⟩ x
  else if x.kind = 3 then keepP ⟨s.out, -1⟩ x
  else if s.at_ < 0 then (s, 7)
  else if x.kind = 2 then (if t.tail x.num ≠ s.at_ then (s, 4) else keepP ⟨s.out, t.head x.num⟩ x)
  else match (polL ps).lookup (s.at_, x.num) with
    | none => (s, 8)
    | some l => if (s.at_, x.num) ∈ opn then (s, 16) else deep l
theorem opnL_none {opn : List (Int × Int)} {k : Int × Int} : (opnL opn).lookup k = none ↔ k ∉ opn := by
  rw [lookup_none]; simp [opnL, Function.comp_def]
theorem opnL_val {opn : List (Int × Int)} {k : Int × Int} {b : Bool} (h : (opnL opn).lookup k = some b) : b = true ∧ k ∈ opn := by
  induction opn with
  | nil => simp [opnL] at h
  | cons p ps ih =>
    simp only [opnL, List.map_cons, List.lookup_cons] at h
    by_cases hk : k = p
    · subst hk; simp at h; simp [h]
    · have : (k == p) = false := by simp [hk]
      rw [this] at h
      obtain ⟨h1, h2⟩ := ih h
      exact ⟨h1, by simp [h2]⟩
theorem opn_put {opn : List (Int × Int)} {a b : Int} (h : (opnL opn).lookup (a, b) = none) : putM ks2 (.agg [ai a, ai b]) (.bool true) (eMap eB (opnL opn)) = eMap eB (opnL (opn ++ [(a, b)])) := by
  have := putM2 (a, b) eB true _ h
  rw [show opnL (opn ++ [(a, b)]) = opnL opn ++ [((a, b), true)] by unfold opnL; rw [List.map_append]; rfl]
  exact this
theorem opn_del {opn : List (Int × Int)} {a b : Int} (h : (opnL opn).lookup (a, b) = none) : delM ks2 (.agg [ai a, ai b]) (eMap eB (opnL (opn ++ [(a, b)]))) = eMap eB (opnL opn) := by
  have := delM2 (a, b) eB true _ h
  rw [show opnL (opn ++ [(a, b)]) = opnL opn ++ [((a, b), true)] by unfold opnL; rw [List.map_append]; rfl]
  exact this

def segP (t : Topology) (ps : List Policy) : Nat → List (Int × Int) → Exp → Segment → Exp × Int
  | 0, opn, s, x => oneP t ps opn s x fun _ => (s, 16)
  | n + 1, opn, s, x => oneP t ps opn s x fun l => runL (segP t ps n (opn ++ [(s.at_, x.num)])) s l
theorem oneP_len {t : Topology} {ps : List Policy} {opn : List (Int × Int)} {s : Exp} {x : Segment} {deep : List Segment → Exp × Int} (h : s.out.length ≤ 32) (hd : ∀ i, (deep i).1.out.length ≤ 32) : (oneP t ps opn s x deep).1.out.length ≤ 32 := by
  unfold oneP
  repeat' split
  all_goals first | exact h | exact keepP_len h | exact hd _
theorem segP_len (t : Topology) (ps : List Policy) : ∀ (n : Nat) (opn : List (Int × Int)) (s : Exp) (x : Segment), s.out.length ≤ 32 → (segP t ps n opn s x).1.out.length ≤ 32 := by
  intro n
  induction n with
  | zero => intro opn s x h; exact oneP_len h fun _ => h
  | succ n ih => intro opn s x h; exact oneP_len h fun i => runL_len (fun s x h => ih _ s x h) _ _ h

/-- what the recursion needs: as many policies as are not open -/
structure KeyOk (ps : List Policy) (opn : List (Int × Int)) (n : Nat) : Prop where
  nodup : opn.Nodup
  sub : ∀ k ∈ opn, k ∈ ps.map Policy.key
  fuel : ps.length ≤ opn.length + n
theorem KeyOk.succ {ps : List Policy} {opn : List (Int × Int)} {n : Nat} {k : Int × Int} (h : KeyOk ps opn (n + 1)) (hk : k ∈ ps.map Policy.key) (hn : k ∉ opn) : KeyOk ps (opn ++ [k]) n :=
  ⟨by rw [List.nodup_append]; exact ⟨h.nodup, by simp, fun a ha b hb => by simp at hb; subst hb; exact fun e => hn (e ▸ ha)⟩, fun j hj => by
    rcases List.mem_append.1 hj with hj | hj
    · exact h.sub j hj
    · simp at hj; subst hj; exact hk, by have := h.fuel; simp; omega⟩
theorem KeyOk.zero {ps : List Policy} {opn : List (Int × Int)} {k : Int × Int} (h : KeyOk ps opn 0) (hk : k ∈ ps.map Policy.key) (hn : k ∉ opn) : False := by
  have h1 := h.fuel
  have : (opn ++ [k]).length ≤ (ps.map Policy.key).length := List.Nodup.length_le_of_subset (by rw [List.nodup_append]; exact ⟨h.nodup, by simp, fun a ha b hb => by simp at hb; subst hb; exact fun e => hn (e ▸ ha)⟩) fun j hj => by
    rcases List.mem_append.1 hj with hj | hj
    · exact h.sub j hj
    · simp at hj; subst hj; exact hk
  simp at this; omega
theorem polL_mem {ps : List Policy} {k : Int × Int} {l : List Segment} (h : (polL ps).lookup k = some l) : k ∈ ps.map Policy.key ∧ ∃ p ∈ ps, p.list = l := by
  induction ps with
  | nil => simp [polL] at h
  | cons p ps ih =>
    simp only [polL, List.map_cons, List.lookup_cons] at h
    by_cases hk : k = p.key
    · subst hk; simp at h; exact ⟨by simp, p, by simp, h⟩
    · have : (k == p.key) = false := by simp [hk]
      rw [this] at h
      obtain ⟨h1, q, h2, h3⟩ := ih h
      exact ⟨by simp [h1], q, by simp [h2], h3⟩

/-- the program's expansion of a list -/
def expandP (t : Topology) (ps : List Policy) (node : Int) (l : List Segment) : List Segment × Int :=
  if polsValid t ps = false ∨ l.all (·.valid t) = false then ([], 1)
  else if node < 0 ∨ t.nodes ≤ node then ([], 2)
  else if (runL (segP t ps ps.length []) ⟨[], node⟩ l).2 ≠ 0 then ([], (runL (segP t ps ps.length []) ⟨[], node⟩ l).2) else ((runL (segP t ps ps.length []) ⟨[], node⟩ l).1.out, 0)
theorem pol_put {ps : List Policy} {i : Nat} (hi : i < ps.length) (hn : (ps.map Policy.key).Nodup) : putM ks2 (.agg [ai ps[i].node, ai ps[i].binding]) (asl (ps[i].list.map Segment.enc)) (eMap eSegs (polL (ps.take i))) = eMap eSegs (polL (ps.take (i + 1))) := by
  have hk : (polL (ps.take i)).lookup ps[i].key = none := by
    rw [lookup_none]
    intro hm
    rw [show (polL (ps.take i)).map (·.1) = (ps.take i).map Policy.key by simp [polL, Function.comp_def]] at hm
    exact dup_all hi hm hn
  have := putM2 ps[i].key eSegs ps[i].list _ hk
  rw [List.take_succ_eq_append_getElem hi, show polL (ps.take i ++ [ps[i]]) = polL (ps.take i) ++ [(ps[i].key, ps[i].list)] by unfold polL; rw [List.map_append]; rfl]
  exact this

end Go.Proofs.YtllpenkgaomdfaaDoor.Vm
/- Contracts: numbers and texts of the references. -/
set_option linter.all false
namespace Go.Proofs.YtllpenkgaomdfaaDoor.Vm
open Go
set_option maxRecDepth 100000

def dig (n : Nat) : UInt8 := UInt8.ofNat (48 + n % 10)
def digF : Nat → Nat → List UInt8
  | 0, _ => []
  | k + 1, n => if n < 10 then [dig n] else digF k (n / 10) ++ [dig (n % 10)]
def digits (n : Nat) : List UInt8 := digF 20 n
theorem digF_len : ∀ (k n : Nat), (digF k n).length ≤ k := by
  intro k
  induction k with
  | zero => intro n; exact Nat.le_refl _
  | succ k ih =>
    intro n
    unfold digF
    split
    · simp
    · have := ih (n / 10); simp; omega
theorem u8_dig {n : Int} (h0 : 0 ≤ n) (h : n < 10) : UInt8.ofNat (IntKind.u8.wrap (IntKind.u64.wrap (48 + n))).toNat = dig n.toNat := by
  have e : IntKind.u8.wrap (IntKind.u64.wrap (48 + n)) = 48 + n := by
    obtain ⟨m, rfl⟩ := Int.eq_ofNat_of_zero_le h0
    have : m < 10 := by omega
    rcases m with _ | _ | _ | _ | _ | _ | _ | _ | _ | _ | m <;> first | rfl | omega
  rw [e]; unfold dig; congr 1; omega
theorem wrap_u64 {n : Int} (h0 : 0 ≤ n) (h : n < 18446744073709551616) : IntKind.u64.wrap n = n := by
  show (n % 18446744073709551616 : Int) = n
  omega

def number (n : Int) : List UInt8 := if n < 0 then 45 :: digits (-n).toNat else digits n.toNat
theorem number_len (n : Int) : (number n).length ≤ 21 := by
  unfold number digits
  split
  · have := digF_len 20 (-n).toNat; simp; omega
  · have := digF_len 20 n.toNat; omega
/-- the number that a text is read as -/
def valueF (l : List UInt8) : Int := (l.take 9).foldl (fun v c => 10 * v + (c.toNat : Int) - 48) 0
def bnd (i : Nat) : Int := 30 * ((10 : Int) ^ i - 1)
theorem value_bnd (l : List UInt8) : - bnd l.length ≤ l.foldl (fun v (c : UInt8) => 10 * v + (c.toNat : Int) - 48) 0 ∧ l.foldl (fun v (c : UInt8) => 10 * v + (c.toNat : Int) - 48) 0 ≤ bnd l.length := by
  rw [← List.reverse_reverse l]
  generalize l.reverse = r
  induction r with
  | nil => decide
  | cons c r ih =>
    rw [List.reverse_cons, List.foldl_append, List.length_append]
    simp only [List.foldl_cons, List.foldl_nil, List.length_cons, List.length_nil]
    generalize (r.reverse.foldl (fun v (c : UInt8) => 10 * v + (c.toNat : Int) - 48) 0) = v at ih ⊢
    generalize r.reverse.length = n at ih ⊢
    unfold bnd at ih ⊢
    have hc : (c.toNat : Int) < 256 := by have := c.toNat_lt; omega
    rw [show n + (0 + 1) = n + 1 by omega, Int.pow_succ]
    generalize (10 : Int) ^ n = p at ih ⊢
    omega
theorem bnd9 {i : Nat} (h : i ≤ 9) : bnd i ≤ 29999999970 := by
  unfold bnd
  have : i = 0 ∨ i = 1 ∨ i = 2 ∨ i = 3 ∨ i = 4 ∨ i = 5 ∨ i = 6 ∨ i = 7 ∨ i = 8 ∨ i = 9 := by omega
  rcases this with rfl | rfl | rfl | rfl | rfl | rfl | rfl | rfl | rfl | rfl <;> decide
theorem foldl_take_succ (l : List UInt8) (i : Nat) (hi : i < l.length) : (l.take (i + 1)).foldl (fun v (c : UInt8) => 10 * v + (c.toNat : Int) - 48) 0 = 10 * (l.take i).foldl (fun v (c : UInt8) => 10 * v + (c.toNat : Int) - 48) 0 + (l[i].toNat : Int) - 48 := by
  rw [List.take_succ_eq_append_getElem hi, List.foldl_append]; rfl
theorem u8_i64 (c : UInt8) : IntKind.i64.wrap (c.toNat : Int) = c.toNat := wrap_in (by have := c.toNat_lt; omega)

def eStr (l : List UInt8) : List AV := [.str l]
/-- the parts of a text that end with a byte, and what follows the last one -/
def splitF (e : UInt8) : List UInt8 → List UInt8 → List (List UInt8) × List UInt8
  | [], cur => ([], cur)
  | c :: l, cur => if c = e then (cur :: (splitF e l []).1, (splitF e l []).2) else splitF e l (cur ++ [c])
theorem splitF_snoc (e c : UInt8) : ∀ (l cur : List UInt8), splitF e (l ++ [c]) cur = if c = e then ((splitF e l cur).1 ++ [(splitF e l cur).2], []) else ((splitF e l cur).1, (splitF e l cur).2 ++ [c]) := by
  intro l
  induction l with
  | nil =>
    intro cur
    show (if c = e then ([cur], []) else ([], cur ++ [c])) = _
    split <;> rfl
  | cons x l ih =>
    intro cur
    show (if x = e then (cur :: (splitF e (l ++ [c]) []).1, (splitF e (l ++ [c]) []).2) else splitF e (l ++ [c]) (cur ++ [x])) = _
    by_cases hx : x = e
    · rw [if_pos hx, ih]
      have : splitF e (x :: l) cur = (cur :: (splitF e l []).1, (splitF e l []).2) := by show (if x = e then _ else _) = _; rw [if_pos hx]
      rw [this]
      by_cases hc : c = e
      · rw [if_pos hc, if_pos hc]; rfl
      · rw [if_neg hc, if_neg hc]
    · rw [if_neg hx, ih]
      have : splitF e (x :: l) cur = splitF e l (cur ++ [x]) := by show (if x = e then _ else _) = _; rw [if_neg hx]
      rw [this]
theorem splitF_cur (e : UInt8) (l : List UInt8) : (splitF e l []).2.length ≤ l.length ∧ l.drop (l.length - (splitF e l []).2.length) = (splitF e l []).2 ∧ (splitF e l []).1.length ≤ l.length := by
  rw [← List.reverse_reverse l]
  generalize l.reverse = r
  induction r with
  | nil => exact ⟨Nat.le_refl _, rfl, Nat.le_refl _⟩
  | cons c r ih =>
    rw [List.reverse_cons, splitF_snoc]
    obtain ⟨h1, h2, h3⟩ := ih
    have hrr : r.reverse.length = r.length := List.length_reverse
    split
    · refine ⟨by simp, by simp, by simp; omega⟩
    · refine ⟨by simp; omega, ?_, by simp; omega⟩
      simp only [List.length_append, List.length_cons, List.length_nil]
      rw [show r.reverse.length + (0 + 1) - ((splitF e r.reverse []).2.length + (0 + 1)) = r.reverse.length - (splitF e r.reverse []).2.length by omega, List.drop_append_of_le_length (by omega), h2]

def split9 (l : List UInt8) (e : UInt8) : List (List UInt8) × Bool := ((splitF e l []).1, decide ((splitF e l []).2 = []))
/-- a segment's text -/
def letter (k : Int) : UInt8 := if k = 1 then 110 else if k = 2 then 97 else if k = 3 then 103 else 98
def segText (s : Segment) : List UInt8 := if 1 ≤ s.kind ∧ s.kind ≤ 4 ∧ 0 ≤ s.num ∧ s.num ≤ 999999999 then letter s.kind :: number s.num else []
theorem segText_len (s : Segment) : (segText s).length ≤ 22 := by
  unfold segText
  split
  · have := number_len s.num; simp; omega
  · simp
/-- the segment with a text -/
def segParse (l : List UInt8) : Segment × Int :=
  if l.length ≤ 1 then (⟨0, 0⟩, 3)
  else if segText ⟨1, valueF (l.drop 1)⟩ = l then (⟨1, valueF (l.drop 1)⟩, 0)
  else if segText ⟨2, valueF (l.drop 1)⟩ = l then (⟨2, valueF (l.drop 1)⟩, 0)
  else if segText ⟨3, valueF (l.drop 1)⟩ = l then (⟨3, valueF (l.drop 1)⟩, 0)
  else if segText ⟨4, valueF (l.drop 1)⟩ = l then (⟨4, valueF (l.drop 1)⟩, 0)
  else (⟨0, 0⟩, 3)
end Go.Proofs.YtllpenkgaomdfaaDoor.Vm
/- Contracts: lists of segments and their texts; what a query may be. -/
set_option linter.all false
namespace Go.Proofs.YtllpenkgaomdfaaDoor.Vm
open Go
set_option maxRecDepth 100000

/-- words with spaces between them -/
def joinSp : List (List UInt8) → List UInt8
  | [] => []
  | x :: l => match l with
    | [] => x
    | _ => x ++ 32 :: joinSp l
theorem joinSp_snoc (x : List UInt8) : ∀ l : List (List UInt8), joinSp (l ++ [x]) = if l = [] then x else joinSp l ++ [32] ++ x := by
  intro l
  induction l with
  | nil => rfl
  | cons y l ih =>
    cases l with
    | nil => simp [joinSp]
    | cons z l =>
      rw [if_neg (by simp)] at ih ⊢
      show y ++ 32 :: joinSp (z :: l ++ [x]) = y ++ 32 :: joinSp (z :: l) ++ [32] ++ x
      rw [ih]; simp
theorem joinSp_len (n : Nat) : ∀ l : List (List UInt8), (∀ x ∈ l, x.length ≤ n) → (joinSp l).length ≤ (n + 1) * l.length := by
  intro l
  induction l with
  | nil => intro _; exact Nat.le_refl _
  | cons y l ih =>
    intro h
    have h1 := h y (by simp)
    have h2 := ih fun x hx => h x (List.mem_cons_of_mem _ hx)
    cases l with
    | nil => simp [joinSp]; omega
    | cons z l =>
      show (y ++ 32 :: joinSp (z :: l)).length ≤ _
      rw [List.length_append, List.length_cons, List.length_cons (a := y), Nat.mul_succ]
      omega
def textList (l : List Segment) : List UInt8 := if l.all fun s => decide (segText s ≠ []) then joinSp (l.map segText) else []
theorem joinSp_step {l : List Segment} {i : Nat} (hi : i < l.length) : joinSp ((l.take (i + 1)).map segText) = if i = 0 then segText l[i] else joinSp ((l.take i).map segText) ++ [32] ++ segText l[i] := by
  rw [List.take_succ_eq_append_getElem hi, List.map_append]
  show joinSp (_ ++ [segText l[i]]) = _
  rw [joinSp_snoc]
  by_cases h0 : i = 0
  · subst h0; rfl
  · rw [if_neg h0, if_neg]
    rw [List.map_eq_nil_iff, List.take_eq_nil_iff]
    rintro (h | h)
    · exact h0 h
    · rw [h] at hi; exact nomatch hi
theorem joinSp_take {l : List Segment} (i : Nat) : (joinSp ((l.take i).map segText)).length ≤ 23 * l.length := by
  refine Nat.le_trans (joinSp_len 22 _ ?_) ?_
  · simp only [List.mem_map]
    rintro x ⟨s, _, rfl⟩
    exact segText_len s
  · simp only [List.length_map, List.length_take]; omega

/-- the list with a text -/
def parseL : List (List UInt8) → List Segment × Int
  | [] => ([], 0)
  | w :: l => if (segParse w).2 ≠ 0 then ([], (segParse w).2) else if (parseL l).2 ≠ 0 then ([], (parseL l).2) else ((segParse w).1 :: (parseL l).1, 0)
theorem parseL_ok : ∀ ws : List (List UInt8), (∀ w ∈ ws, (segParse w).2 = 0) → parseL ws = (ws.map fun w => (segParse w).1, 0) := by
  intro ws
  induction ws with
  | nil => intro _; rfl
  | cons w ws ih =>
    intro h
    rw [parseL, if_neg (by rw [h w (by simp)]; simp), ih fun x hx => h x (List.mem_cons_of_mem _ hx)]
    rfl
theorem parseL_no (w : List UInt8) (post : List (List UInt8)) (hw : (segParse w).2 ≠ 0) : ∀ ws : List (List UInt8), (∀ w ∈ ws, (segParse w).2 = 0) → parseL (ws ++ w :: post) = ([], (segParse w).2) := by
  intro ws
  induction ws with
  | nil => intro _; rw [List.nil_append, parseL, if_pos hw]
  | cons v ws ih =>
    intro h
    rw [List.cons_append, parseL, if_neg (by rw [h v (by simp)]; simp), ih fun x hx => h x (List.mem_cons_of_mem _ hx), if_pos hw]
def textParse (l : List UInt8) : List Segment × Int := if l = [] then ([], 0) else parseL (split9 (l ++ [32]) 32).1
theorem splitF_in (e : UInt8) : ∀ (l cur : List UInt8) (w : List UInt8), w ∈ (splitF e l cur).1 → w.length ≤ cur.length + l.length := by
  intro l
  induction l with
  | nil => intro cur w h; exact nomatch h
  | cons c l ih =>
    intro cur w h
    unfold splitF at h
    split at h
    · rcases List.mem_cons.1 h with rfl | h
      · simp
      · have := ih _ _ h; simp at this ⊢; omega
    · have := ih _ _ h; simp at this ⊢; omega
def lineT : Topology := ⟨4, [], [⟨0, 1, 1, 1, 0, 1, 0⟩, ⟨1, 2, 1, 1, 0, 1, 0⟩, ⟨2, 3, 1, 1, 0, 1, 0⟩]⟩
end Go.Proofs.YtllpenkgaomdfaaDoor.Vm
