/- The statement PolicyParts holds: for every input the function returns true and leaves its arguments as they were.
   Conditions: none beyond those of the given row. -/
import Derived.Test.YtmapiefbnjaikaaP02
import Derived.Test.YtmapiefbnjaikaaProg
import Derived.KernelRfl
import Derived.Test.YtmapiefbnjaikaaRows
import Derived.JoinedCond
set_option linter.all false
namespace Go.Proofs.Ytmapiefbnjaikaa.Vm
open Go
def TT : List (List TI) := [
  [⟨.other, 0, 0, []⟩,
   ⟨.func, 1, 8, [.nilfunc]⟩,
   ⟨(.int .i64), 1, 8, [.int .i64 0]⟩,
   ⟨(.int .i64), 1, 8, [.int .i64 0]⟩,
   ⟨.bool, 1, 1, [.bool false]⟩,
   ⟨(.int .u8), 1, 1, [.int .u8 0]⟩,
   ⟨(.int .u8), 1, 1, [.int .u8 0]⟩,
   ⟨(.struct [(0, 2), (1, 3), (2, 4), (3, 6)]), 4, 24, [.int .i64 0, .int .i64 0, .bool false, .int .u8 0]⟩,
   ⟨(.struct [(0, 2), (1, 3), (2, 4), (3, 6)]), 4, 24, [.int .i64 0, .int .i64 0, .bool false, .int .u8 0]⟩,
   ⟨.str, 1, 16, [.str []]⟩,
   ⟨.str, 1, 16, [.str []]⟩,
   ⟨.str, 1, 16, [.str []]⟩,
   ⟨(.int .u64), 1, 8, [.int .u64 0]⟩,
   ⟨(.struct [(0, 9), (1, 12)]), 2, 24, [.str [], .int .u64 0]⟩,
   ⟨(.struct [(0, 9), (1, 12)]), 2, 24, [.str [], .int .u64 0]⟩,
   ⟨(.ptr 132), 1, 8, [.nilptr]⟩],
  [⟨(.ptr 135), 1, 8, [.nilptr]⟩,
   ⟨(.ptr 145), 1, 8, [.nilptr]⟩,
   ⟨(.struct [(0, 17)]), 1, 8, [.nilptr]⟩,
   ⟨(.struct [(0, 17)]), 1, 8, [.nilptr]⟩,
   ⟨.iface, 1, 16, [.nilif]⟩,
   ⟨(.int .i32), 1, 4, [.int .i32 0]⟩,
   ⟨(.sl 4), 1, 24, [.sl (some true) false []]⟩,
   ⟨(.sl 82), 1, 24, [.sl (some true) false []]⟩,
   ⟨(.struct [(0, 3), (1, 22), (2, 23)]), 3, 56, [.int .i64 0, .sl (some true) false [], .sl (some true) false []]⟩,
   ⟨(.struct [(0, 3), (1, 22), (2, 23)]), 3, 56, [.int .i64 0, .sl (some true) false [], .sl (some true) false []]⟩,
   ⟨(.sl 41), 1, 24, [.sl (some true) false []]⟩,
   ⟨(.sl 37), 1, 24, [.sl (some true) false []]⟩,
   ⟨(.struct [(0, 25), (3, 26), (4, 3), (5, 27)]), 6, 112, [.int .i64 0, .sl (some true) false [], .sl (some true) false [], .sl (some true) false [], .int .i64 0, .sl (some true) false []]⟩,
   ⟨(.struct [(0, 25), (3, 26), (4, 3), (5, 27)]), 6, 112, [.int .i64 0, .sl (some true) false [], .sl (some true) false [], .sl (some true) false [], .int .i64 0, .sl (some true) false []]⟩,
   ⟨.func, 1, 8, [.nilfunc]⟩,
   ⟨.func, 1, 8, [.nilfunc]⟩],
  [⟨(.int .i64), 1, 8, [.int .i64 0]⟩,
   ⟨.other, 0, 0, []⟩,
   ⟨.func, 1, 8, [.nilfunc]⟩,
   ⟨.func, 1, 8, [.nilfunc]⟩,
   ⟨(.struct [(0, 3), (1, 3)]), 2, 16, [.int .i64 0, .int .i64 0]⟩,
   ⟨(.struct [(0, 3), (1, 3)]), 2, 16, [.int .i64 0, .int .i64 0]⟩,
   ⟨.func, 1, 8, [.nilfunc]⟩,
   ⟨.func, 1, 8, [.nilfunc]⟩,
   ⟨(.struct [(0, 3), (1, 3), (2, 27)]), 3, 40, [.int .i64 0, .int .i64 0, .sl (some true) false []]⟩,
   ⟨(.struct [(0, 3), (1, 3), (2, 27)]), 3, 40, [.int .i64 0, .int .i64 0, .sl (some true) false []]⟩,
   ⟨.other, 0, 0, []⟩,
   ⟨.func, 1, 8, [.nilfunc]⟩,
   ⟨.func, 1, 8, [.nilfunc]⟩,
   ⟨(.sl 60), 1, 24, [.sl (some true) false []]⟩,
   ⟨(.sl 3), 1, 24, [.sl (some true) false []]⟩,
   ⟨(.struct [(0, 3), (1, 45), (2, 46)]), 3, 56, [.int .i64 0, .sl (some true) false [], .sl (some true) false []]⟩],
  [⟨(.struct [(0, 3), (1, 45), (2, 46)]), 3, 56, [.int .i64 0, .sl (some true) false [], .sl (some true) false []]⟩,
   ⟨(.struct [(0, 3), (1, 3), (2, 3), (3, 3), (4, 27), (5, 3)]), 6, 64, [.int .i64 0, .int .i64 0, .int .i64 0, .int .i64 0, .sl (some true) false [], .int .i64 0]⟩,
   ⟨(.struct [(0, 3), (1, 3), (2, 3), (3, 3), (4, 27), (5, 3)]), 6, 64, [.int .i64 0, .int .i64 0, .int .i64 0, .int .i64 0, .sl (some true) false [], .int .i64 0]⟩,
   ⟨(.struct [(0, 25), (3, 48), (6, 50)]), 12, 176, [.int .i64 0, .sl (some true) false [], .sl (some true) false [], .int .i64 0, .sl (some true) false [], .sl (some true) false [], .int .i64 0, .int .i64 0, .int .i64 0, .int .i64 0, .sl (some true) false [], .int .i64 0]⟩,
   ⟨(.struct [(0, 25), (3, 48), (6, 50)]), 12, 176, [.int .i64 0, .sl (some true) false [], .sl (some true) false [], .int .i64 0, .sl (some true) false [], .sl (some true) false [], .int .i64 0, .int .i64 0, .int .i64 0, .int .i64 0, .sl (some true) false [], .int .i64 0]⟩,
   ⟨.func, 1, 8, [.nilfunc]⟩,
   ⟨.other, 0, 0, []⟩,
   ⟨.func, 1, 8, [.nilfunc]⟩,
   ⟨.func, 1, 8, [.nilfunc]⟩,
   ⟨.func, 1, 8, [.nilfunc]⟩,
   ⟨.func, 1, 8, [.nilfunc]⟩,
   ⟨(.struct [(0, 46), (1, 4), (2, 27)]), 3, 56, [.sl (some true) false [], .bool false, .sl (some true) false []]⟩,
   ⟨(.struct [(0, 46), (1, 4), (2, 27)]), 3, 56, [.sl (some true) false [], .bool false, .sl (some true) false []]⟩,
   ⟨.func, 1, 8, [.nilfunc]⟩,
   ⟨.func, 1, 8, [.nilfunc]⟩,
   ⟨.func, 1, 8, [.nilfunc]⟩],
  [⟨.func, 1, 8, [.nilfunc]⟩,
   ⟨.func, 1, 8, [.nilfunc]⟩,
   ⟨.func, 1, 8, [.nilfunc]⟩,
   ⟨.func, 1, 8, [.nilfunc]⟩,
   ⟨(.ptr 72), 1, 8, [.nilptr]⟩,
   ⟨(.map 73 27), 1, 8, [.nilmap]⟩,
   ⟨(.map 73 4), 1, 8, [.nilmap]⟩,
   ⟨(.struct [(0, 25), (3, 69), (4, 70), (5, 3), (6, 27)]), 7, 104, [.int .i64 0, .sl (some true) false [], .sl (some true) false [], .nilmap, .nilmap, .int .i64 0, .sl (some true) false []]⟩,
   ⟨(.struct [(0, 25), (3, 69), (4, 70), (5, 3), (6, 27)]), 7, 104, [.int .i64 0, .sl (some true) false [], .sl (some true) false [], .nilmap, .nilmap, .int .i64 0, .sl (some true) false []]⟩,
   ⟨(.arr 2 3), 2, 16, [.int .i64 0, .int .i64 0]⟩,
   ⟨.func, 1, 8, [.nilfunc]⟩,
   ⟨(.struct [(0, 27), (1, 3)]), 2, 32, [.sl (some true) false [], .int .i64 0]⟩,
   ⟨(.struct [(0, 27), (1, 3)]), 2, 32, [.sl (some true) false [], .int .i64 0]⟩,
   ⟨.other, 0, 0, []⟩,
   ⟨.func, 1, 8, [.nilfunc]⟩,
   ⟨.func, 1, 8, [.nilfunc]⟩],
  [⟨.func, 1, 8, [.nilfunc]⟩,
   ⟨(.struct [(0, 3), (1, 3), (2, 73), (4, 3), (5, 3), (6, 3)]), 7, 56, [.int .i64 0, .int .i64 0, .int .i64 0, .int .i64 0, .int .i64 0, .int .i64 0, .int .i64 0]⟩,
   ⟨(.struct [(0, 3), (1, 3), (2, 73), (4, 3), (5, 3), (6, 3)]), 7, 56, [.int .i64 0, .int .i64 0, .int .i64 0, .int .i64 0, .int .i64 0, .int .i64 0, .int .i64 0]⟩,
   ⟨.other, 0, 0, []⟩,
   ⟨.func, 1, 8, [.nilfunc]⟩,
   ⟨.func, 1, 8, [.nilfunc]⟩,
   ⟨.func, 1, 8, [.nilfunc]⟩,
   ⟨.func, 1, 8, [.nilfunc]⟩,
   ⟨.func, 1, 8, [.nilfunc]⟩,
   ⟨.other, 0, 0, []⟩,
   ⟨.func, 1, 8, [.nilfunc]⟩,
   ⟨.func, 1, 8, [.nilfunc]⟩,
   ⟨.func, 1, 8, [.nilfunc]⟩,
   ⟨.func, 1, 8, [.nilfunc]⟩,
   ⟨.func, 1, 8, [.nilfunc]⟩,
   ⟨.func, 1, 8, [.nilfunc]⟩],
  [⟨.func, 1, 8, [.nilfunc]⟩,
   ⟨.func, 1, 8, [.nilfunc]⟩,
   ⟨.func, 1, 8, [.nilfunc]⟩,
   ⟨.func, 1, 8, [.nilfunc]⟩,
   ⟨.func, 1, 8, [.nilfunc]⟩,
   ⟨.other, 0, 0, []⟩,
   ⟨.func, 1, 8, [.nilfunc]⟩,
   ⟨.func, 1, 8, [.nilfunc]⟩,
   ⟨.func, 1, 8, [.nilfunc]⟩,
   ⟨.other, 0, 0, []⟩,
   ⟨.func, 1, 8, [.nilfunc]⟩,
   ⟨.func, 1, 8, [.nilfunc]⟩,
   ⟨(.sl 27), 1, 24, [.sl (some true) false []]⟩,
   ⟨.func, 1, 8, [.nilfunc]⟩,
   ⟨(.sl 9), 1, 24, [.sl (some true) false []]⟩,
   ⟨.other, 0, 0, []⟩],
  [⟨.func, 1, 8, [.nilfunc]⟩,
   ⟨.other, 0, 0, []⟩,
   ⟨.func, 1, 8, [.nilfunc]⟩,
   ⟨(.arr 5 9), 5, 80, [.str [], .str [], .str [], .str [], .str []]⟩,
   ⟨.func, 1, 8, [.nilfunc]⟩,
   ⟨.other, 0, 0, []⟩,
   ⟨.func, 1, 8, [.nilfunc]⟩,
   ⟨.func, 1, 8, [.nilfunc]⟩,
   ⟨.func, 1, 8, [.nilfunc]⟩,
   ⟨.func, 1, 8, [.nilfunc]⟩,
   ⟨.func, 1, 8, [.nilfunc]⟩,
   ⟨.func, 1, 8, [.nilfunc]⟩,
   ⟨(.int .u64), 1, 8, [.int .u64 0]⟩,
   ⟨.func, 1, 8, [.nilfunc]⟩,
   ⟨.func, 1, 8, [.nilfunc]⟩,
   ⟨(.sl 5), 1, 24, [.sl (some true) false []]⟩],
  [⟨.func, 1, 8, [.nilfunc]⟩,
   ⟨.func, 1, 8, [.nilfunc]⟩,
   ⟨.func, 1, 8, [.nilfunc]⟩,
   ⟨(.struct [(0, 17), (1, 17), (2, 17), (3, 9)]), 4, 40, [.nilptr, .nilptr, .nilptr, .str []]⟩,
   ⟨(.struct [(0, 17), (1, 17), (2, 17), (3, 9)]), 4, 40, [.nilptr, .nilptr, .nilptr, .str []]⟩,
   ⟨(.arr 0 16), 0, 0, []⟩,
   ⟨(.struct [(0, 133)]), 0, 0, []⟩,
   ⟨(.struct [(0, 133)]), 0, 0, []⟩,
   ⟨.func, 1, 8, [.nilfunc]⟩,
   ⟨(.int .u32), 1, 4, [.int .u32 0]⟩,
   ⟨(.int .u8), 1, 1, [.int .u8 0]⟩,
   ⟨(.int .u8), 1, 1, [.int .u8 0]⟩,
   ⟨.func, 1, 8, [.nilfunc]⟩,
   ⟨(.ptr 5), 1, 8, [.nilptr]⟩,
   ⟨(.int .i32), 1, 4, [.int .i32 0]⟩,
   ⟨(.int .i32), 1, 4, [.int .i32 0]⟩],
  [⟨(.struct [(0, 12), (1, 12), (2, 137), (3, 138), (4, 5), (5, 5), (6, 139), (7, 140), (8, 141), (9, 142), (10, 143)]), 11, 48, [.int .u64 0, .int .u64 0, .int .u32 0, .int .u8 0, .int .u8 0, .int .u8 0, .int .u8 0, .nilfunc, .nilptr, .int .i32 0, .int .i32 0]⟩,
   ⟨(.struct [(0, 12), (1, 12), (2, 137), (3, 138), (4, 5), (5, 5), (6, 139), (7, 140), (8, 141), (9, 142), (10, 143)]), 11, 48, [.int .u64 0, .int .u64 0, .int .u32 0, .int .u8 0, .int .u8 0, .int .u8 0, .int .u8 0, .nilfunc, .nilptr, .int .i32 0, .int .i32 0]⟩,
   ⟨.other, 1, 8, [.nilptr]⟩]]
def tabN : Nat := 147
set_option maxRecDepth 100000 in
theorem tabOk : ((List.range 160).map fun t => (tiOf Try.prog t).getD ⟨.other, 0, 0, []⟩) = (List.range 160).map (Env.ti { T := TT }) := by kernel_rfl
def EE : Env := { T := TT, eqs := [(36, [.int .i64, .int .i64]), (37, [.int .i64, .int .i64]), (73, [.int .i64, .int .i64]), (81, [.int .i64, .int .i64, .int .i64, .int .i64, .int .i64, .int .i64, .int .i64]), (82, [.int .i64, .int .i64, .int .i64, .int .i64, .int .i64, .int .i64, .int .i64]), (115, [.str, .str, .str, .str, .str])] }
theorem fits : EE.Fits Try.prog := Env.fits 160 (by decide) tabOk
theorem eqok : EE.EqOk Try.prog := Env.eqOk (by kernel_rfl)
theorem step {N : NN} {c : Cfg} {R : Exit → List AV → List VObj → Prop} (h : vrunC EE 500 c (OutHoldsD Try.prog N R)) : RunD Try.prog N c R := run_stepD fits eqok 500 h
abbrev F.law21_PolicyExpand : FuncId := 3
theorem K.law21_PolicyExpand : Known Try.prog 3 Try.f3 := ⟨by kernel_rfl, by kernel_rfl, by kernel_rfl⟩
abbrev F.law21_PolicyAgain : FuncId := 4
theorem K.law21_PolicyAgain : Known Try.prog 4 Try.f4 := ⟨by kernel_rfl, by kernel_rfl, by kernel_rfl⟩
abbrev F.law21_PolicyParts : FuncId := 5
theorem K.law21_PolicyParts : Known Try.prog 5 Try.f5 := ⟨by kernel_rfl, by kernel_rfl, by kernel_rfl⟩
abbrev F.law21_PolicyPlain : FuncId := 6
theorem K.law21_PolicyPlain : Known Try.prog 6 Try.f6 := ⟨by kernel_rfl, by kernel_rfl, by kernel_rfl⟩
abbrev F.law21_PolicyValid : FuncId := 7
theorem K.law21_PolicyValid : Known Try.prog 7 Try.f7 := ⟨by kernel_rfl, by kernel_rfl, by kernel_rfl⟩
abbrev F.law23_ForwardStep : FuncId := 8
theorem K.law23_ForwardStep : Known Try.prog 8 Try.f8 := ⟨by kernel_rfl, by kernel_rfl, by kernel_rfl⟩
abbrev F.law23_ForwardApart : FuncId := 9
theorem K.law23_ForwardApart : Known Try.prog 9 Try.f9 := ⟨by kernel_rfl, by kernel_rfl, by kernel_rfl⟩
abbrev F.law23_ForwardPlain : FuncId := 10
theorem K.law23_ForwardPlain : Known Try.prog 10 Try.f10 := ⟨by kernel_rfl, by kernel_rfl, by kernel_rfl⟩
abbrev F.law23_ForwardReached : FuncId := 11
theorem K.law23_ForwardReached : Known Try.prog 11 Try.f11 := ⟨by kernel_rfl, by kernel_rfl, by kernel_rfl⟩
abbrev F.law23_ForwardBypass : FuncId := 12
theorem K.law23_ForwardBypass : Known Try.prog 12 Try.f12 := ⟨by kernel_rfl, by kernel_rfl, by kernel_rfl⟩
abbrev F.law23_ForwardBounds : FuncId := 13
theorem K.law23_ForwardBounds : Known Try.prog 13 Try.f13 := ⟨by kernel_rfl, by kernel_rfl, by kernel_rfl⟩
abbrev F.law21_awake : FuncId := 14
theorem K.law21_awake : Known Try.prog 14 Try.f14 := ⟨by kernel_rfl, by kernel_rfl, by kernel_rfl⟩
abbrev F.law21_large : FuncId := 15
theorem K.law21_large : Known Try.prog 15 Try.f15 := ⟨by kernel_rfl, by kernel_rfl, by kernel_rfl⟩
abbrev F.law21_heavy : FuncId := 16
theorem K.law21_heavy : Known Try.prog 16 Try.f16 := ⟨by kernel_rfl, by kernel_rfl, by kernel_rfl⟩
abbrev F.policy_Expand : FuncId := 17
theorem K.policy_Expand : Known Try.prog 17 Try.f17 := ⟨by kernel_rfl, by kernel_rfl, by kernel_rfl⟩
abbrev F.ref21_Expand : FuncId := 18
theorem K.ref21_Expand : Known Try.prog 18 Try.f18 := ⟨by kernel_rfl, by kernel_rfl, by kernel_rfl⟩
abbrev F.ref18_Same : FuncId := 19
theorem K.ref18_Same : Known Try.prog 19 Try.f19 := ⟨by kernel_rfl, by kernel_rfl, by kernel_rfl⟩
abbrev F.ref21_Valid : FuncId := 20
theorem K.ref21_Valid : Known Try.prog 20 Try.f20 := ⟨by kernel_rfl, by kernel_rfl, by kernel_rfl⟩
abbrev F.policy_Find : FuncId := 21
theorem K.policy_Find : Known Try.prog 21 Try.f21 := ⟨by kernel_rfl, by kernel_rfl, by kernel_rfl⟩
abbrev F.ref21_Find : FuncId := 22
theorem K.ref21_Find : Known Try.prog 22 Try.f22 := ⟨by kernel_rfl, by kernel_rfl, by kernel_rfl⟩
abbrev F.policy_Valid : FuncId := 23
theorem K.policy_Valid : Known Try.prog 23 Try.f23 := ⟨by kernel_rfl, by kernel_rfl, by kernel_rfl⟩
abbrev F.ref21_SamePolicy : FuncId := 24
theorem K.ref21_SamePolicy : Known Try.prog 24 Try.f24 := ⟨by kernel_rfl, by kernel_rfl, by kernel_rfl⟩
abbrev F.law23_awake : FuncId := 25
theorem K.law23_awake : Known Try.prog 25 Try.f25 := ⟨by kernel_rfl, by kernel_rfl, by kernel_rfl⟩
abbrev F.law23_large : FuncId := 26
theorem K.law23_large : Known Try.prog 26 Try.f26 := ⟨by kernel_rfl, by kernel_rfl, by kernel_rfl⟩
abbrev F.forward_Step : FuncId := 27
theorem K.forward_Step : Known Try.prog 27 Try.f27 := ⟨by kernel_rfl, by kernel_rfl, by kernel_rfl⟩
abbrev F.ref23_Step : FuncId := 28
theorem K.ref23_Step : Known Try.prog 28 Try.f28 := ⟨by kernel_rfl, by kernel_rfl, by kernel_rfl⟩
abbrev F.ref09_SameInts : FuncId := 29
theorem K.ref09_SameInts : Known Try.prog 29 Try.f29 := ⟨by kernel_rfl, by kernel_rfl, by kernel_rfl⟩
abbrev F.ref23_Same : FuncId := 30
theorem K.ref23_Same : Known Try.prog 30 Try.f30 := ⟨by kernel_rfl, by kernel_rfl, by kernel_rfl⟩
abbrev F.ref22_Valid : FuncId := 31
theorem K.ref22_Valid : Known Try.prog 31 Try.f31 := ⟨by kernel_rfl, by kernel_rfl, by kernel_rfl⟩
abbrev F.ref09_Has : FuncId := 32
theorem K.ref09_Has : Known Try.prog 32 Try.f32 := ⟨by kernel_rfl, by kernel_rfl, by kernel_rfl⟩
abbrev F.ref09_Tail : FuncId := 33
theorem K.ref09_Tail : Known Try.prog 33 Try.f33 := ⟨by kernel_rfl, by kernel_rfl, by kernel_rfl⟩
abbrev F.law21_list : FuncId := 34
theorem K.law21_list : Known Try.prog 34 Try.f34 := ⟨by kernel_rfl, by kernel_rfl, by kernel_rfl⟩
abbrev F.law21_line : FuncId := 35
theorem K.law21_line : Known Try.prog 35 Try.f35 := ⟨by kernel_rfl, by kernel_rfl, by kernel_rfl⟩
abbrev F.ref18_TextList : FuncId := 36
theorem K.ref18_TextList : Known Try.prog 36 Try.f36 := ⟨by kernel_rfl, by kernel_rfl, by kernel_rfl⟩
abbrev F.policy_proper : FuncId := 37
theorem K.policy_proper : Known Try.prog 37 Try.f37 := ⟨by kernel_rfl, by kernel_rfl, by kernel_rfl⟩
abbrev F.policy_expansion_list : FuncId := 38
theorem K.policy_expansion_list : Known Try.prog 38 Try.f38 := ⟨by kernel_rfl, by kernel_rfl, by kernel_rfl⟩
abbrev F.ref21_proper : FuncId := 39
theorem K.ref21_proper : Known Try.prog 39 Try.f39 := ⟨by kernel_rfl, by kernel_rfl, by kernel_rfl⟩
abbrev F.ref21_all : FuncId := 40
theorem K.ref21_all : Known Try.prog 40 Try.f40 := ⟨by kernel_rfl, by kernel_rfl, by kernel_rfl⟩
abbrev F.ref09_Valid : FuncId := 41
theorem K.ref09_Valid : Known Try.prog 41 Try.f41 := ⟨by kernel_rfl, by kernel_rfl, by kernel_rfl⟩
abbrev F.ref21_index : FuncId := 42
theorem K.ref21_index : Known Try.prog 42 Try.f42 := ⟨by kernel_rfl, by kernel_rfl, by kernel_rfl⟩
abbrev F.topology_Valid : FuncId := 43
theorem K.topology_Valid : Known Try.prog 43 Try.f43 := ⟨by kernel_rfl, by kernel_rfl, by kernel_rfl⟩
abbrev F.ref22_Routes : FuncId := 44
theorem K.ref22_Routes : Known Try.prog 44 Try.f44 := ⟨by kernel_rfl, by kernel_rfl, by kernel_rfl⟩
abbrev F.law23_awake_1 : FuncId := 45
theorem K.law23_awake_1 : Known Try.prog 45 Try.f45 := ⟨by kernel_rfl, by kernel_rfl, by kernel_rfl⟩
abbrev F.law23_list : FuncId := 46
theorem K.law23_list : Known Try.prog 46 Try.f46 := ⟨by kernel_rfl, by kernel_rfl, by kernel_rfl⟩
abbrev F.table_Valid : FuncId := 47
theorem K.table_Valid : Known Try.prog 47 Try.f47 := ⟨by kernel_rfl, by kernel_rfl, by kernel_rfl⟩
abbrev F.slices_Clone_Segment : FuncId := 48
theorem K.slices_Clone_Segment : Known Try.prog 48 Try.f48 := ⟨by kernel_rfl, by kernel_rfl, by kernel_rfl⟩
abbrev F.topology_Tail : FuncId := 49
theorem K.topology_Tail : Known Try.prog 49 Try.f49 := ⟨by kernel_rfl, by kernel_rfl, by kernel_rfl⟩
abbrev F.slices_Contains_int : FuncId := 50
theorem K.slices_Contains_int : Known Try.prog 50 Try.f50 := ⟨by kernel_rfl, by kernel_rfl, by kernel_rfl⟩
abbrev F.slices_Concat_Segment : FuncId := 51
theorem K.slices_Concat_Segment : Known Try.prog 51 Try.f51 := ⟨by kernel_rfl, by kernel_rfl, by kernel_rfl⟩
abbrev F.slices_Clone_int : FuncId := 52
theorem K.slices_Clone_int : Known Try.prog 52 Try.f52 := ⟨by kernel_rfl, by kernel_rfl, by kernel_rfl⟩
abbrev F.ref23_Route : FuncId := 53
theorem K.ref23_Route : Known Try.prog 53 Try.f53 := ⟨by kernel_rfl, by kernel_rfl, by kernel_rfl⟩
abbrev F.ref22_outgoing : FuncId := 54
theorem K.ref22_outgoing : Known Try.prog 54 Try.f54 := ⟨by kernel_rfl, by kernel_rfl, by kernel_rfl⟩
abbrev F.ref18_Valid : FuncId := 55
theorem K.ref18_Valid : Known Try.prog 55 Try.f55 := ⟨by kernel_rfl, by kernel_rfl, by kernel_rfl⟩
abbrev F.ref09_Arcs : FuncId := 56
theorem K.ref09_Arcs : Known Try.prog 56 Try.f56 := ⟨by kernel_rfl, by kernel_rfl, by kernel_rfl⟩
abbrev F.ref18_ParseList : FuncId := 57
theorem K.ref18_ParseList : Known Try.prog 57 Try.f57 := ⟨by kernel_rfl, by kernel_rfl, by kernel_rfl⟩
abbrev F.ref18_Text : FuncId := 58
theorem K.ref18_Text : Known Try.prog 58 Try.f58 := ⟨by kernel_rfl, by kernel_rfl, by kernel_rfl⟩
abbrev F.segment_Valid : FuncId := 59
theorem K.segment_Valid : Known Try.prog 59 Try.f59 := ⟨by kernel_rfl, by kernel_rfl, by kernel_rfl⟩
abbrev F.policy_expansion_segment : FuncId := 60
theorem K.policy_expansion_segment : Known Try.prog 60 Try.f60 := ⟨by kernel_rfl, by kernel_rfl, by kernel_rfl⟩
abbrev F.ref21_one : FuncId := 61
theorem K.ref21_one : Known Try.prog 61 Try.f61 := ⟨by kernel_rfl, by kernel_rfl, by kernel_rfl⟩
abbrev F.ref09_within : FuncId := 62
theorem K.ref09_within : Known Try.prog 62 Try.f62 := ⟨by kernel_rfl, by kernel_rfl, by kernel_rfl⟩
abbrev F.topology_inside : FuncId := 63
theorem K.topology_inside : Known Try.prog 63 Try.f63 := ⟨by kernel_rfl, by kernel_rfl, by kernel_rfl⟩
abbrev F.topology_proper : FuncId := 64
theorem K.topology_proper : Known Try.prog 64 Try.f64 := ⟨by kernel_rfl, by kernel_rfl, by kernel_rfl⟩
abbrev F.ref11_Fits : FuncId := 65
theorem K.ref11_Fits : Known Try.prog 65 Try.f65 := ⟨by kernel_rfl, by kernel_rfl, by kernel_rfl⟩
abbrev F.ref12_Next : FuncId := 66
theorem K.ref12_Next : Known Try.prog 66 Try.f66 := ⟨by kernel_rfl, by kernel_rfl, by kernel_rfl⟩
abbrev F.ref09_Out : FuncId := 67
theorem K.ref09_Out : Known Try.prog 67 Try.f67 := ⟨by kernel_rfl, by kernel_rfl, by kernel_rfl⟩
abbrev F.ref11_Up : FuncId := 68
theorem K.ref11_Up : Known Try.prog 68 Try.f68 := ⟨by kernel_rfl, by kernel_rfl, by kernel_rfl⟩
abbrev F.topology_Out : FuncId := 69
theorem K.topology_Out : Known Try.prog 69 Try.f69 := ⟨by kernel_rfl, by kernel_rfl, by kernel_rfl⟩
abbrev F.table_outgoing : FuncId := 70
theorem K.table_outgoing : Known Try.prog 70 Try.f70 := ⟨by kernel_rfl, by kernel_rfl, by kernel_rfl⟩
abbrev F.topology_ends : FuncId := 71
theorem K.topology_ends : Known Try.prog 71 Try.f71 := ⟨by kernel_rfl, by kernel_rfl, by kernel_rfl⟩
abbrev F.slices_Index_int : FuncId := 72
theorem K.slices_Index_int : Known Try.prog 72 Try.f72 := ⟨by kernel_rfl, by kernel_rfl, by kernel_rfl⟩
abbrev F.slices_Grow_Segment : FuncId := 73
theorem K.slices_Grow_Segment : Known Try.prog 73 Try.f73 := ⟨by kernel_rfl, by kernel_rfl, by kernel_rfl⟩
abbrev F.ref09_Split : FuncId := 74
theorem K.ref09_Split : Known Try.prog 74 Try.f74 := ⟨by kernel_rfl, by kernel_rfl, by kernel_rfl⟩
abbrev F.ref18_Parse : FuncId := 75
theorem K.ref18_Parse : Known Try.prog 75 Try.f75 := ⟨by kernel_rfl, by kernel_rfl, by kernel_rfl⟩
abbrev F.ref09_Number : FuncId := 76
theorem K.ref09_Number : Known Try.prog 76 Try.f76 := ⟨by kernel_rfl, by kernel_rfl, by kernel_rfl⟩
abbrev F.policy_expansion_keep : FuncId := 77
theorem K.policy_expansion_keep : Known Try.prog 77 Try.f77 := ⟨by kernel_rfl, by kernel_rfl, by kernel_rfl⟩
abbrev F.topology_Head : FuncId := 78
theorem K.topology_Head : Known Try.prog 78 Try.f78 := ⟨by kernel_rfl, by kernel_rfl, by kernel_rfl⟩
abbrev F.ref21_state_keep : FuncId := 79
theorem K.ref21_state_keep : Known Try.prog 79 Try.f79 := ⟨by kernel_rfl, by kernel_rfl, by kernel_rfl⟩
abbrev F.ref09_Head : FuncId := 80
theorem K.ref09_Head : Known Try.prog 80 Try.f80 := ⟨by kernel_rfl, by kernel_rfl, by kernel_rfl⟩
abbrev F.ref11_Dist : FuncId := 81
theorem K.ref11_Dist : Known Try.prog 81 Try.f81 := ⟨by kernel_rfl, by kernel_rfl, by kernel_rfl⟩
abbrev F.ref12_next : FuncId := 82
theorem K.ref12_next : Known Try.prog 82 Try.f82 := ⟨by kernel_rfl, by kernel_rfl, by kernel_rfl⟩
abbrev F.topology_arcs : FuncId := 83
theorem K.topology_arcs : Known Try.prog 83 Try.f83 := ⟨by kernel_rfl, by kernel_rfl, by kernel_rfl⟩
abbrev F.topology_Arcs : FuncId := 84
theorem K.topology_Arcs : Known Try.prog 84 Try.f84 := ⟨by kernel_rfl, by kernel_rfl, by kernel_rfl⟩
abbrev F.ref09_Value : FuncId := 85
theorem K.ref09_Value : Known Try.prog 85 Try.f85 := ⟨by kernel_rfl, by kernel_rfl, by kernel_rfl⟩
abbrev F.ref09_digits : FuncId := 86
theorem K.ref09_digits : Known Try.prog 86 Try.f86 := ⟨by kernel_rfl, by kernel_rfl, by kernel_rfl⟩
abbrev F.ref11_search : FuncId := 87
theorem K.ref11_search : Known Try.prog 87 Try.f87 := ⟨by kernel_rfl, by kernel_rfl, by kernel_rfl⟩
abbrev F.ref11_On : FuncId := 88
theorem K.ref11_On : Known Try.prog 88 Try.f88 := ⟨by kernel_rfl, by kernel_rfl, by kernel_rfl⟩
abbrev F.ref11_transit : FuncId := 89
theorem K.ref11_transit : Known Try.prog 89 Try.f89 := ⟨by kernel_rfl, by kernel_rfl, by kernel_rfl⟩
abbrev F.ref09_Cost : FuncId := 90
theorem K.ref09_Cost : Known Try.prog 90 Try.f90 := ⟨by kernel_rfl, by kernel_rfl, by kernel_rfl⟩
abbrev F.ref09_Overloaded : FuncId := 91
theorem K.ref09_Overloaded : Known Try.prog 91 Try.f91 := ⟨by kernel_rfl, by kernel_rfl, by kernel_rfl⟩
end Go.Proofs.Ytmapiefbnjaikaa.Vm
/- The values that the statements speak of, as plain data, and their cells. -/
set_option linter.all false
namespace Go.Proofs.Ytmapiefbnjaikaa.Vm
open Go

/-- a whole number of 64 bits -/
def i64 (n : Int) : Prop := -9223372036854775808 ≤ n ∧ n ≤ 9223372036854775807
theorem wrap_in {n : Int} (h : -9223372036854775808 ≤ n ∧ n ≤ 9223372036854775807) : IntKind.i64.wrap n = n := by rw [IntKind.wrap_i64]; omega
abbrev ai (n : Int) : AV := .int .i64 n
abbrev asl (es : List (List AV)) : AV := .sl none false es

structure Link where
  a : Int
  b : Int
  c0 : Int
  c1 : Int
  cap : Int
  delay : Int
  group : Int
  deriving DecidableEq, Inhabited
def Link.enc (l : Link) : List AV := [ai l.a, ai l.b, ai l.c0, ai l.c1, ai l.cap, ai l.delay, ai l.group]
structure Topology where
  nodes : Int
  overload : List Bool
  links : List Link
  deriving DecidableEq, Inhabited
def eBool (b : Bool) : List AV := [.bool b]
def eInt (n : Int) : List AV := [ai n]
def Topology.enc (t : Topology) : List AV := [ai t.nodes, asl (t.overload.map eBool), asl (t.links.map Link.enc)]
structure Segment where
  kind : Int
  num : Int
  deriving DecidableEq, Inhabited
def Segment.enc (s : Segment) : List AV := [ai s.kind, ai s.num]
structure Policy where
  node : Int
  binding : Int
  list : List Segment
  deriving DecidableEq, Inhabited
def Policy.enc (p : Policy) : List AV := [ai p.node, ai p.binding, asl (p.list.map Segment.enc)]
structure Query where
  t : Topology
  policies : List Policy
  node : Int
  list : List Segment
  deriving DecidableEq, Inhabited
def Query.enc (q : Query) : List AV := q.t.enc ++ [asl (q.policies.map Policy.enc), ai q.node, asl (q.list.map Segment.enc)]

/-- a number of a list's element -/
theorem idx_nat {α : Type} {enc : α → List AV} {xs : List α} {i : Nat} {n : Nat} {R : List AV → Prop} (hi : i < xs.length) (hl : (enc xs[i]).length = n) (h : R (enc xs[i])) :
    True ∧ 0 ≤ (i : Int) ∧ ∃ c, (xs.map enc)[(i : Int).toNat]? = some c ∧ c.length = n ∧ R c :=
  ⟨trivial, by omega, _, by simp [hi], hl, h⟩
theorem idx_int {α : Type} {enc : α → List AV} {xs : List α} {i : Int} {j : Nat} {n : Nat} {R : List AV → Prop} (hij : i = (j : Int)) (hi : j < xs.length) (hl : (enc xs[j]).length = n) (h : R (enc xs[j])) :
    True ∧ 0 ≤ i ∧ ∃ c, (xs.map enc)[i.toNat]? = some c ∧ c.length = n ∧ R c := by
  subst hij; exact idx_nat hi hl h

theorem all_take_succ {α : Type} {p : α → Bool} {l : List α} {i : Nat} (hi : i < l.length) (h : ∀ x ∈ l.take i, p x = true) (hp : p l[i] = true) : ∀ x ∈ l.take (i + 1), p x = true := by
  intro x hx
  rw [List.take_succ_eq_append_getElem hi, List.mem_append] at hx
  rcases hx with hx | hx
  · exact h x hx
  · simp at hx; subst hx; exact hp
theorem all_false {α : Type} {p : α → Bool} {l : List α} {i : Nat} (hi : i < l.length) (hp : p l[i] = false) : l.all p = false := by
  rw [List.all_eq_false]; exact ⟨l[i], List.getElem_mem hi, by simp [hp]⟩
theorem all_true {α : Type} {p : α → Bool} {l : List α} {i : Nat} (hi : l.length ≤ i) (h : ∀ x ∈ l.take i, p x = true) : l.all p = true := by
  rw [List.take_of_length_le hi] at h; exact List.all_eq_true.2 h

theorem wrap_succ {i : Nat} (h : i < 4611686018427387904) : IntKind.i64.wrap ((i : Int) + 1) = ((i + 1 : Nat) : Int) := by rw [IntKind.wrap_i64]; omega

/- Maps with pairs of numbers as keys. -/
def eKey (k : Int × Int) : AV := .agg [ai k.1, ai k.2]
abbrev ks2 : Bool × List LK := (true, [.int .i64, .int .i64])
def eMap {β : Type} (f : β → AV) (l : List ((Int × Int) × β)) : List (AV × AV) := l.map fun p => (eKey p.1, f p.2)
theorem eqKey2 (k k' : Int × Int) : eqKey ks2 (eKey k) (eKey k') = some (decide (k = k')) := by
  show some (decide (k.1 = k'.1) && (decide (k.2 = k'.2) && true)) = _
  obtain ⟨a, b⟩ := k
  obtain ⟨c, d⟩ := k'
  simp [Bool.decide_and]
theorem hasKs2 {β : Type} (k : Int × Int) (f : β → AV) (l : List ((Int × Int) × β)) : hasKs ks2 (eKey k) (eMap f l) := by
  refine ⟨by rw [eqKey2]; rfl, fun e he => ?_⟩
  obtain ⟨x, _, rfl⟩ := List.mem_map.1 he
  rw [eqKey2]; rfl
theorem findK2 {β : Type} (k : Int × Int) (f : β → AV) (l : List ((Int × Int) × β)) : findK ks2 (eKey k) (eMap f l) = (l.lookup k).map f := by
  induction l with
  | nil => rfl
  | cons p l ih =>
    obtain ⟨k', v⟩ := p
    show (match eqKey ks2 (eKey k) (eKey k') with | some true => some (f v) | _ => findK ks2 (eKey k) (eMap f l)) = _
    rw [eqKey2, List.lookup_cons]
    by_cases h : k = k'
    · subst h; simp
    · have : (k == k') = false := by simp [h]
      simp only [h, decide_false, this]
      exact ih
theorem look2 {β : Type} (k : Int × Int) (f : β → AV) (l : List ((Int × Int) × β)) {R : Option AV → Prop} (h0 : l.lookup k = none → R none) (h1 : ∀ b, l.lookup k = some b → R (some (f b))) :
    hasKs ks2 (eKey k) (eMap f l) ∧ ∃ q, findK ks2 (eKey k) (eMap f l) = q ∧ R q := by
  refine ⟨hasKs2 k f l, _, findK2 k f l, ?_⟩
  cases h : l.lookup k with
  | none => exact h0 h
  | some b => exact h1 b h
theorem putM2 {β : Type} (k : Int × Int) (f : β → AV) (v : β) (l : List ((Int × Int) × β)) (h : l.lookup k = none) : putM ks2 (eKey k) (f v) (eMap f l) = eMap f (l ++ [(k, v)]) := by
  induction l with
  | nil => rfl
  | cons p l ih =>
    obtain ⟨k', v'⟩ := p
    rw [List.lookup_cons] at h
    have hk : ¬ k = k' := fun e => by subst e; simp at h
    have hb : (k == k') = false := by simp [hk]
    rw [hb] at h
    show (match eqKey ks2 (eKey k) (eKey k') with | some true => (eKey k, f v) :: eMap f l | _ => (eKey k', f v') :: putM ks2 (eKey k) (f v) (eMap f l)) = _
    rw [eqKey2]
    simp only [hk, decide_false]
    rw [ih h]; rfl
theorem delM2 {β : Type} (k : Int × Int) (f : β → AV) (v : β) (l : List ((Int × Int) × β)) (h : l.lookup k = none) : delM ks2 (eKey k) (eMap f (l ++ [(k, v)])) = eMap f l := by
  induction l with
  | nil =>
    show (match eqKey ks2 (eKey k) (eKey k) with | some true => [] | _ => _) = _
    rw [eqKey2]; simp; rfl
  | cons p l ih =>
    obtain ⟨k', v'⟩ := p
    rw [List.lookup_cons] at h
    have hk : ¬ k = k' := fun e => by subst e; simp at h
    have hb : (k == k') = false := by simp [hk]
    rw [hb] at h
    show (match eqKey ks2 (eKey k) (eKey k') with | some true => eMap f (l ++ [(k, v)]) | _ => (eKey k', f v') :: delM ks2 (eKey k) (eMap f (l ++ [(k, v)]))) = _
    rw [eqKey2]
    simp only [hk, decide_false]
    rw [ih h]; rfl
theorem lookup_none {β : Type} {k : Int × Int} {l : List ((Int × Int) × β)} : l.lookup k = none ↔ k ∉ l.map (·.1) := by
  induction l with
  | nil => simp
  | cons p l ih =>
    obtain ⟨k', v⟩ := p
    rw [List.lookup_cons]
    by_cases h : k = k'
    · subst h; simp
    · have : (k == k') = false := by simp [h]
      rw [this]; simp [ih, h]

end Go.Proofs.Ytmapiefbnjaikaa.Vm
/- Contracts: topology. -/
set_option linter.all false
namespace Go.Proofs.Ytmapiefbnjaikaa.Vm
open Go
set_option maxRecDepth 100000

theorem inside_c (x a b : Int) : PureCall Try.prog F.topology_inside [ai x, ai a, ai b] (.bool (decide (a ≤ x) && decide (x ≤ b))) := by
  refine contractS fits K.topology_inside ?_
  repeat' (first
    | ((with_reducible refine step ?_); conv => whnf)
    | with_reducible refine And.intro (fun _ => ?_) (fun _ => ?_))
  all_goals simp [*]
theorem within_c (x a b : Int) : PureCall Try.prog F.ref09_within [ai x, ai a, ai b] (.bool (decide (a ≤ x) && decide (x ≤ b))) := by
  refine contractS fits K.ref09_within ?_
  repeat' (first
    | ((with_reducible refine step ?_); conv => whnf)
    | with_reducible refine And.intro (fun _ => ?_) (fun _ => ?_))
  all_goals simp [*]

def Link.proper (l : Link) (n : Int) : Bool := decide (0 ≤ l.a) && decide (l.a ≤ IntKind.i64.wrap (n - 1)) && (decide (0 ≤ l.b) && decide (l.b ≤ IntKind.i64.wrap (n - 1))) && !decide (l.a = l.b) &&
  (decide (1 ≤ l.c0) && decide (l.c0 ≤ 65535)) && (decide (1 ≤ l.c1) && decide (l.c1 ≤ 65535)) && (decide (0 ≤ l.cap) && decide (l.cap ≤ 1048576)) && (decide (1 ≤ l.delay) && decide (l.delay ≤ 65536)) && (decide (0 ≤ l.group) && decide (l.group ≤ 64))
theorem proper_c (l : Link) (n : Int) : PureCall Try.prog F.topology_proper [.agg l.enc, ai n] (.bool (l.proper n)) := by
  refine contractS fits K.topology_proper ?_
  repeat' (first
    | ((with_reducible refine step ?_); conv => whnf)
    | (refine call_pure (inside_c _ _ _) rfl rfl ?_; conv => whnf)
    | with_reducible refine And.intro (fun _ => ?_) (fun _ => ?_)
    | refine Exists.intro _ (And.intro rfl (And.intro (by decide) ?_)))
  all_goals simp [Link.proper, *]

def Topology.valid (t : Topology) : Bool := decide (1 ≤ t.nodes) && decide (t.nodes ≤ 64) && (decide (t.overload.length = 0) || decide ((t.overload.length : Int) = t.nodes)) && decide (t.links.length ≤ 256) && t.links.all fun l => l.proper t.nodes

theorem valid_c (t : Topology) : PureCall Try.prog F.topology_Valid [.agg t.enc] (.bool t.valid) := by
  refine contractS fits K.topology_Valid ?_
  repeat' (first
    | ((with_reducible refine step ?_); conv => whnf)
    | (refine call_pure (inside_c _ _ _) rfl rfl ?_; conv => whnf)
    | (with_reducible refine And.intro (fun _ => ?_) (fun _ => ?_)))
  all_goals first
    | (refine loop_invS (fun i => i ≤ t.links.length ∧ ∀ l ∈ t.links.take i, l.proper t.nodes = true) [1, 30, 31, 32] 1 (fun i => [(32, ai i)]) (fun _ => []) (fun i => t.links.length - i) 0 (by decide) (by decide) ?_
       conv => whnf
       refine ⟨rfl, rfl, by simp, fun i ⟨hi, hp⟩ => ?_⟩
       repeat' (first
        | ((with_reducible refine step ?_); conv => whnf)
        | (refine call_pure (proper_c _ _) rfl rfl ?_; conv => whnf)
        | (with_reducible refine And.intro (fun _ => ?_) (fun _ => ?_))
        | (have hlt : i < t.links.length := (by simp_all); refine idx_nat hlt rfl ?_; conv => whnf)))
    | skip
  all_goals try simp only [List.length_map, Bool.not_eq_true', Bool.not_eq_false', Bool.and_eq_true, Bool.and_eq_false_iff, decide_eq_true_eq, decide_eq_false_iff_not] at *
  all_goals first
    | exact ⟨_, ⟨Nat.succ_le_of_lt hlt, all_take_succ hlt hp (by assumption)⟩, by omega, by rw [wrap_succ (by omega)]; rfl, rfl⟩
    | refine congrArg AV.bool ?_
  all_goals try (rw [Topology.valid, all_false hlt (by assumption), Bool.and_false]; done)
  all_goals try (rw [Topology.valid, all_true (by omega) hp]; simp_all; try omega; done)
  all_goals symm; simp_all [Topology.valid]; try omega

/-- the reference's way -/
theorem valid9_c (t : Topology) : PureCall Try.prog F.ref09_Valid [.agg t.enc] (.bool t.valid) := by
  refine contractS fits K.ref09_Valid ?_
  repeat' (first
    | ((with_reducible refine step ?_); conv => whnf)
    | (refine call_pure (within_c _ _ _) rfl rfl ?_; conv => whnf)
    | (with_reducible refine And.intro (fun _ => ?_) (fun _ => ?_)))
  all_goals first
    | (refine loop_invS (fun i => i ≤ t.links.length ∧ ∀ l ∈ t.links.take i, l.proper t.nodes = true) [1, 3] 1 (fun i => [(3, ai i)]) (fun _ => []) (fun i => t.links.length - i) 0 (by decide) (by decide) ?_
       conv => whnf
       refine ⟨rfl, rfl, by simp, fun i ⟨hi, hp⟩ => ?_⟩
       repeat' (first
        | ((with_reducible refine step ?_); conv => whnf)
        | (refine call_pure (within_c _ _ _) rfl rfl ?_; conv => whnf)
        | (with_reducible refine And.intro (fun _ => ?_) (fun _ => ?_))
        | (have hlt : i < t.links.length := (by simp_all); refine idx_nat hlt rfl ?_; conv => whnf)
        | refine Exists.intro _ (And.intro rfl (And.intro (by decide) ?_))))
    | skip
  all_goals try simp only [List.length_map, Bool.not_eq_true', Bool.not_eq_false', Bool.and_eq_true, Bool.and_eq_false_iff, decide_eq_true_eq, decide_eq_false_iff_not] at *
  all_goals first
    | exact ⟨_, ⟨Nat.succ_le_of_lt hlt, all_take_succ hlt hp (by simp_all [Link.proper])⟩, by omega, by rw [wrap_succ (by omega)]; rfl, rfl⟩
    | refine congrArg AV.bool ?_
  all_goals try (rw [Topology.valid, all_false hlt (by simp_all [Link.proper]; try omega), Bool.and_false]; done)
  all_goals try (rw [Topology.valid, all_true (by omega) hp]; simp_all; try omega; done)
  all_goals symm; simp_all [Topology.valid]; try omega
end Go.Proofs.Ytmapiefbnjaikaa.Vm
/- Contracts: arcs of a topology; segments. -/
set_option linter.all false
namespace Go.Proofs.Ytmapiefbnjaikaa.Vm
open Go
set_option maxRecDepth 100000

theorem valid_links {t : Topology} (h : t.valid = true) : t.links.length ≤ 256 := by simp [Topology.valid] at h; omega
theorem valid_nodes {t : Topology} (h : t.valid = true) : 1 ≤ t.nodes ∧ t.nodes ≤ 64 := by simp [Topology.valid] at h; omega

def Topology.arcs (t : Topology) : Int := if t.valid then 2 * t.links.length else 0
def Topology.at_ (t : Topology) (a : Int) : Link := t.links.getD (a / 2).toNat default
def Topology.tail (t : Topology) (a : Int) : Int := if a < 0 ∨ t.arcs ≤ a then -1 else if a % 2 = 0 then (t.at_ a).a else (t.at_ a).b
def Topology.head (t : Topology) (a : Int) : Int := if a < 0 ∨ t.arcs ≤ a then -1 else if a % 2 = 0 then (t.at_ a).b else (t.at_ a).a
def Topology.cost (t : Topology) (a : Int) : Int := if a < 0 ∨ t.arcs ≤ a then -1 else if a % 2 = 0 then (t.at_ a).c0 else (t.at_ a).c1

theorem arcs_c (t : Topology) : PureCall Try.prog F.topology_Arcs [.agg t.enc] (ai t.arcs) := by
  refine contractS fits K.topology_Arcs ?_
  repeat' (first
    | ((with_reducible refine step ?_); conv => whnf)
    | (refine call_pure (valid_c _) rfl rfl ?_; conv => whnf)
    | (with_reducible refine And.intro (fun h => ?_) (fun h => ?_)))
  all_goals refine congrArg ai ?_
  all_goals simp only [Bool.not_eq_true', Bool.not_eq_false', List.length_map] at *
  · simp [Topology.arcs, h]
  · have := valid_links h
    simp only [Topology.arcs, h, if_true]
    rw [wrap_in (by omega)]
theorem arcs9_c (t : Topology) : PureCall Try.prog F.ref09_Arcs [.agg t.enc] (ai t.arcs) := by
  refine contractS fits K.ref09_Arcs ?_
  repeat' (first
    | ((with_reducible refine step ?_); conv => whnf)
    | (refine call_pure (valid9_c _) rfl rfl ?_; conv => whnf)
    | (with_reducible refine And.intro (fun h => ?_) (fun h => ?_)))
  all_goals refine congrArg ai ?_
  all_goals simp only [Bool.not_eq_true', Bool.not_eq_false', List.length_map] at *
  · simp [Topology.arcs, h]
  · have := valid_links h
    simp only [Topology.arcs, h, if_true]
    rw [wrap_in (by omega)]

theorem arcs_le {t : Topology} {a : Int} (h0 : ¬ a < 0) (h : ¬ t.arcs ≤ a) : (a / 2).toNat < t.links.length ∧ t.links.length ≤ 256 ∧ t.valid = true ∧ t.arcs = 2 * t.links.length := by
  unfold Topology.arcs at h ⊢
  split at h
  · rename_i hv; have := valid_links hv; exact ⟨by omega, this, hv, by simp [hv]⟩
  · omega
theorem at_get {t : Topology} {a : Int} (h : (a / 2).toNat < t.links.length) : t.links[(a / 2).toNat] = t.at_ a := by simp [Topology.at_, h]

/-- an index that is half an arc -/
theorem half {a : Int} (h0 : ¬ a < 0) (h : a ≤ 9223372036854775807) : IntKind.i64.wrap (a.tdiv 2) = ((a / 2).toNat : Int) := by
  rw [Int.tdiv_eq_ediv_of_nonneg (by omega), wrap_in (by omega)]; omega
theorem tmod2 {a : Int} (h0 : ¬ a < 0) : a.tmod 2 = a % 2 := Int.tmod_eq_emod_of_nonneg (by omega)

theorem ends_c (t : Topology) (a : Int) : PureCall Try.prog F.topology_ends [.agg t.enc, ai a] (.tuple [ai (t.tail a), ai (t.head a), ai (t.cost a)]) := by
  refine contractS fits K.topology_ends ?_
  repeat' (first
    | ((with_reducible refine step ?_); conv => whnf)
    | (refine call_pure (arcs_c _) rfl rfl ?_; conv => whnf)
    | (with_reducible refine And.intro (fun h => ?_) (fun h => ?_))
    | (with_reducible refine And.intro (show (_ : Int) ≠ 0 by decide) ?_; conv => whnf)
    | (have hq := arcs_le (t := t) (a := a) (by simp_all) (by simp_all); refine idx_int (half (by simp_all) (by omega)) hq.1 rfl ?_; conv => whnf)
    | refine Exists.intro _ (And.intro rfl (And.intro (by decide) ?_)))
  all_goals simp only [decide_eq_true_eq, decide_eq_false_iff_not, decide_not, Bool.not_eq_true', Bool.not_eq_false'] at *
  all_goals try rw [tmod2 (by assumption)] at *
  all_goals grind [Topology.tail, Topology.head, Topology.cost, at_get]
theorem tail_c (t : Topology) (a : Int) : PureCall Try.prog F.topology_Tail [.agg t.enc, ai a] (ai (t.tail a)) := by
  refine contractS fits K.topology_Tail ?_
  repeat' (first
    | ((with_reducible refine step ?_); conv => whnf)
    | (refine call_pure (ends_c _ _) rfl rfl ?_; conv => whnf))
  all_goals rfl
theorem head_c (t : Topology) (a : Int) : PureCall Try.prog F.topology_Head [.agg t.enc, ai a] (ai (t.head a)) := by
  refine contractS fits K.topology_Head ?_
  repeat' (first
    | ((with_reducible refine step ?_); conv => whnf)
    | (refine call_pure (ends_c _ _) rfl rfl ?_; conv => whnf))
  all_goals rfl
theorem tail9_c (t : Topology) (a : Int) : PureCall Try.prog F.ref09_Tail [.agg t.enc, ai a] (ai (t.tail a)) := by
  refine contractS fits K.ref09_Tail ?_
  repeat' (first
    | ((with_reducible refine step ?_); conv => whnf)
    | (refine call_pure (arcs9_c _) rfl rfl ?_; conv => whnf)
    | (with_reducible refine And.intro (fun h => ?_) (fun h => ?_))
    | (with_reducible refine And.intro (show (_ : Int) ≠ 0 by decide) ?_; conv => whnf)
    | (have hq := arcs_le (t := t) (a := a) (by simp_all) (by simp_all); refine idx_int (half (by simp_all) (by omega)) hq.1 rfl ?_; conv => whnf)
    | refine Exists.intro _ (And.intro rfl (And.intro (by decide) ?_)))
  all_goals simp only [decide_eq_true_eq, decide_eq_false_iff_not, decide_not, Bool.not_eq_true', Bool.not_eq_false'] at *
  all_goals try rw [tmod2 (by assumption)] at *
  all_goals grind [Topology.tail, Topology.head, Topology.cost, at_get]
theorem head9_c (t : Topology) (a : Int) : PureCall Try.prog F.ref09_Head [.agg t.enc, ai a] (ai (t.head a)) := by
  refine contractS fits K.ref09_Head ?_
  repeat' (first
    | ((with_reducible refine step ?_); conv => whnf)
    | (refine call_pure (arcs9_c _) rfl rfl ?_; conv => whnf)
    | (refine call_pure (tail9_c _ _) rfl rfl ?_; conv => whnf)
    | (with_reducible refine And.intro (fun h => ?_) (fun h => ?_))
    | (with_reducible refine And.intro (show (_ : Int) ≠ 0 by decide) ?_; conv => whnf))
  all_goals simp only [decide_eq_true_eq, decide_eq_false_iff_not, decide_not, Bool.not_eq_true', Bool.not_eq_false'] at *
  · simp [Topology.head, h]
  · simp [Topology.head, h]
  · rename_i h0
    obtain ⟨q1, q2, q3, q4⟩ := arcs_le h0 h
    refine congrArg ai ?_
    rw [tmod2 h0, half h0 (by omega)]
    have e : ((a / 2).toNat : Int) = a / 2 := by omega
    rw [e, wrap_in (n := a / 2 * 2) (by omega), wrap_in (n := a / 2 * 2 + 1) (by omega), wrap_in (n := a / 2 * 2 + 1 - a % 2) (by omega)]
    have hat : t.at_ (a / 2 * 2 + 1 - a % 2) = t.at_ a := by unfold Topology.at_; congr 2; omega
    have h1 : ¬ (a / 2 * 2 + 1 - a % 2 < 0 ∨ t.arcs ≤ a / 2 * 2 + 1 - a % 2) := by omega
    have h2 : ¬ (a < 0 ∨ t.arcs ≤ a) := by omega
    simp only [Topology.tail, Topology.head, h1, h2, if_false, hat]
    by_cases h3 : a % 2 = 0
    · rw [if_neg (by omega), if_pos h3]
    · rw [if_pos (by omega), if_neg h3]

/-- a segment in a topology -/
def Segment.valid (t : Topology) (s : Segment) : Bool :=
  if t.valid = false ∨ s.num < 0 then false else if s.kind = 1 then decide (s.num < t.nodes) else if s.kind = 2 then decide (s.num < t.arcs) else if s.kind = 3 then decide (1 ≤ s.num) && decide (s.num ≤ 64) else decide (s.kind = 4) && decide (s.num ≤ 65535)
theorem arcs_valid {t : Topology} (h : t.valid = true) : t.arcs = 2 * t.links.length := by simp [Topology.arcs, h]

theorem segValid_c (t : Topology) (s : Segment) : PureCall Try.prog F.segment_Valid [.agg t.enc, .agg s.enc] (.bool (s.valid t)) := by
  refine contractS fits K.segment_Valid ?_
  repeat' (first
    | ((with_reducible refine step ?_); conv => whnf)
    | (refine call_pure (valid_c _) rfl rfl ?_; conv => whnf)
    | (with_reducible refine And.intro (fun h => ?_) (fun h => ?_)))
  all_goals simp only [decide_eq_true_eq, decide_eq_false_iff_not, decide_not, Bool.not_eq_true', Bool.not_eq_false', List.length_map] at *
  all_goals refine congrArg AV.bool ?_
  all_goals try rw [wrap_in (by have := valid_links ‹_›; omega)]
  all_goals grind [Segment.valid, arcs_valid]
theorem segValid18_c (t : Topology) (s : Segment) : PureCall Try.prog F.ref18_Valid [.agg t.enc, .agg s.enc] (.bool (s.valid t)) := by
  refine contractS fits K.ref18_Valid ?_
  repeat' (first
    | ((with_reducible refine step ?_); conv => whnf)
    | (refine call_pure (valid9_c _) rfl rfl ?_; conv => whnf)
    | (refine call_pure (arcs9_c _) rfl rfl ?_; conv => whnf)
    | (with_reducible refine And.intro (fun h => ?_) (fun h => ?_)))
  all_goals simp only [decide_eq_true_eq, decide_eq_false_iff_not, decide_not, Bool.not_eq_true', Bool.not_eq_false', List.length_map] at *
  all_goals refine congrArg AV.bool ?_
  all_goals grind [Segment.valid, arcs_valid]

/-- all segments of a list are valid -/
theorem segsValid_c (t : Topology) (l : List Segment) (hl : l.length < 4611686018427387904) : PureCall Try.prog F.policy_proper [.agg t.enc, asl (l.map Segment.enc)] (.bool (l.all (·.valid t))) := by
  refine contractS fits K.policy_proper ?_
  repeat' (first
    | ((with_reducible refine step ?_); conv => whnf)
    | (with_reducible refine And.intro (fun _ => ?_) (fun _ => ?_)))
  refine loop_invS (fun i => i ≤ l.length ∧ ∀ s ∈ l.take i, s.valid t = true) [2, 7, 8, 9] 1 (fun i => [(9, ai i)]) (fun _ => []) (fun i => l.length - i) 0 (by decide) (by decide) ?_
  conv => whnf
  refine ⟨rfl, rfl, by simp, fun i ⟨hi, hp⟩ => ?_⟩
  repeat' (first
        | ((with_reducible refine step ?_); conv => whnf)
        | (refine call_pure (segValid_c _ _) rfl rfl ?_; conv => whnf)
        | (with_reducible refine And.intro (fun _ => ?_) (fun _ => ?_))
        | (have hlt : i < l.length := (by simp_all); refine idx_nat hlt rfl ?_; conv => whnf))
  all_goals try simp only [List.length_map, Bool.not_eq_true', Bool.not_eq_false', Bool.and_eq_true, Bool.and_eq_false_iff, decide_eq_true_eq, decide_eq_false_iff_not] at *
  · refine congrArg AV.bool ?_
    rw [all_false hlt (by assumption)]
  · exact ⟨_, ⟨Nat.succ_le_of_lt hlt, all_take_succ hlt hp (by assumption)⟩, by omega, by rw [wrap_succ (by omega)]; rfl, rfl⟩
  · refine congrArg AV.bool ?_
    rw [all_true (by omega) hp]
theorem segsValid21_c (t : Topology) (l : List Segment) (hl : l.length < 4611686018427387904) : PureCall Try.prog F.ref21_proper [.agg t.enc, asl (l.map Segment.enc)] (.bool (l.all (·.valid t))) := by
  refine contractS fits K.ref21_proper ?_
  repeat' (first
    | ((with_reducible refine step ?_); conv => whnf)
    | (with_reducible refine And.intro (fun _ => ?_) (fun _ => ?_)))
  refine loop_invS (fun i => i ≤ l.length ∧ ∀ s ∈ l.take i, s.valid t = true) [1, 2, 5] 1 (fun i => [(5, ai i)]) (fun _ => []) (fun i => l.length - i) 0 (by decide) (by decide) ?_
  conv => whnf
  refine ⟨rfl, rfl, by simp, fun i ⟨hi, hp⟩ => ?_⟩
  repeat' (first
        | ((with_reducible refine step ?_); conv => whnf)
        | (refine call_pure (segValid18_c _ _) rfl rfl ?_; conv => whnf)
        | (with_reducible refine And.intro (fun _ => ?_) (fun _ => ?_))
        | (have hlt : i < l.length := (by simp_all); refine idx_nat hlt rfl ?_; conv => whnf))
  all_goals try simp only [List.length_map, Bool.not_eq_true', Bool.not_eq_false', Bool.and_eq_true, Bool.and_eq_false_iff, decide_eq_true_eq, decide_eq_false_iff_not] at *
  · refine congrArg AV.bool ?_
    rw [all_false hlt (by assumption)]
  · exact ⟨_, ⟨Nat.succ_le_of_lt hlt, all_take_succ hlt hp (by assumption)⟩, by omega, by rw [wrap_succ (by omega)]; rfl, rfl⟩
  · refine congrArg AV.bool ?_
    rw [all_true (by omega) hp]
end Go.Proofs.Ytmapiefbnjaikaa.Vm
/- Contracts: lists of segments, policies found. -/
set_option linter.all false
namespace Go.Proofs.Ytmapiefbnjaikaa.Vm
open Go
set_option maxRecDepth 100000

/-- two lists' elements compared one by one up to a place -/
theorem eq_of_take {α : Type} [DecidableEq α] {a b : List α} (hl : a.length = b.length) {i : Nat} (hi : a.length ≤ i) (h : a.take i = b.take i) : a = b := by
  rwa [List.take_of_length_le hi, List.take_of_length_le (by omega)] at h
theorem ne_of_get {α : Type} {a b : List α} {i : Nat} (h1 : i < a.length) (h2 : i < b.length) (h : a[i] ≠ b[i]) : a ≠ b := fun e => by subst e; exact h rfl
theorem take_succ_eq {α : Type} {a b : List α} {i : Nat} (h1 : i < a.length) (h2 : i < b.length) (h : a.take i = b.take i) (he : a[i] = b[i]) : a.take (i + 1) = b.take (i + 1) := by
  rw [List.take_succ_eq_append_getElem h1, List.take_succ_eq_append_getElem h2, h, he]

theorem same18_c (a b : List Segment) (ha : a.length < 4611686018427387904) : PureCall Try.prog F.ref18_Same [asl (a.map Segment.enc), asl (b.map Segment.enc)] (.bool (decide (a = b))) := by
  refine contractS fits K.ref18_Same ?_
  repeat' (first
    | ((with_reducible refine step ?_); conv => whnf)
    | (with_reducible refine And.intro (fun h => ?_) (fun h => ?_)))
  · simp at h
    refine congrArg AV.bool ?_
    symm; rw [decide_eq_false_iff_not]; exact fun e => by subst e; exact h rfl
  · simp at h
    have h : a.length = b.length := by omega
    refine loop_invS (fun i => i ≤ a.length ∧ a.take i = b.take i) [0, 1, 5] 0 (fun i => [(5, ai i)]) (fun _ => []) (fun i => a.length - i) 0 (by decide) (by decide) ?_
    conv => whnf
    refine ⟨rfl, rfl, by simp, fun i ⟨hi, hp⟩ => ?_⟩
    repeat' (first
        | ((with_reducible refine step ?_); conv => whnf)
        | (with_reducible refine And.intro (fun _ => ?_) (fun _ => ?_))
        | (have hlt : i < a.length := (by simp_all); have hlb : i < b.length := h ▸ hlt; refine idx_nat hlt rfl ?_; conv => whnf)
        | (refine idx_nat (h ▸ hlt) rfl ?_; conv => whnf))
    all_goals try simp only [List.length_map, Bool.not_eq_true', Bool.not_eq_false', Bool.and_eq_true, Bool.and_eq_false_iff, decide_eq_true_eq, decide_eq_false_iff_not] at *
    · refine congrArg AV.bool ?_
      symm; rw [decide_eq_false_iff_not]
      refine ne_of_get hlt hlb fun e => ?_
      simp_all
    · refine ⟨i + 1, ⟨hlt, take_succ_eq hlt hlb hp ?_⟩, by omega, by rw [wrap_succ (by omega)]; rfl, rfl⟩
      have h2 : a[i].kind = b[i].kind ∧ a[i].num = b[i].num := by simp_all
      cases h3 : a[i]; cases h4 : b[i]; rw [h3, h4] at h2; simp_all
    · refine congrArg AV.bool ?_
      symm; rw [decide_eq_true_eq]; exact eq_of_take h (by omega) hp

theorem samePolicy_c (p q : Policy) (ha : p.list.length < 4611686018427387904) : PureCall Try.prog F.ref21_SamePolicy [.agg p.enc, .agg q.enc] (.bool (decide (p = q))) := by
  refine contractS fits K.ref21_SamePolicy ?_
  repeat' (first
    | ((with_reducible refine step ?_); conv => whnf)
    | (refine call_pure (same18_c _ _ ha) rfl rfl ?_; conv => whnf)
    | (with_reducible refine And.intro (fun h => ?_) (fun h => ?_)))
  all_goals refine congrArg AV.bool ?_
  all_goals cases p; cases q; simp_all

/-- a policy's number in a list, or none -/
def polIdx (ps : List Policy) (node binding : Int) : Option Nat := ps.findIdx? fun p => decide (p.node = node) && decide (p.binding = binding)
theorem findIdx_none {α : Type} {p : α → Bool} {l : List α} {i : Nat} (hi : l.length ≤ i) (h : ∀ x ∈ l.take i, p x = false) : l.findIdx? p = none := by
  rw [List.take_of_length_le hi] at h; rw [List.findIdx?_eq_none_iff]; exact h
theorem findIdx_some {α : Type} {p : α → Bool} {l : List α} {i : Nat} (hi : i < l.length) (h : ∀ x ∈ l.take i, p x = false) (hp : p l[i] = true) : l.findIdx? p = some i := by
  rw [List.findIdx?_eq_some_iff_getElem]
  refine ⟨hi, hp, fun j hj => ?_⟩
  have := h l[j] (List.mem_take_iff_getElem.2 ⟨j, by omega, rfl⟩)
  simp [this]
theorem none_take_succ {α : Type} {p : α → Bool} {l : List α} {i : Nat} (hi : i < l.length) (h : ∀ x ∈ l.take i, p x = false) (hp : p l[i] = false) : ∀ x ∈ l.take (i + 1), p x = false := by
  intro x hx
  rw [List.take_succ_eq_append_getElem hi, List.mem_append] at hx
  rcases hx with hx | hx
  · exact h x hx
  · simp at hx; subst hx; exact hp

theorem index21_c (ps : List Policy) (node binding : Int) (hl : ps.length < 4611686018427387904) :
    PureCall Try.prog F.ref21_index [asl (ps.map Policy.enc), ai node, ai binding] (ai (match polIdx ps node binding with | some i => (i : Int) | none => -1)) := by
  refine contractS fits K.ref21_index ?_
  repeat' (first
    | ((with_reducible refine step ?_); conv => whnf)
    | (with_reducible refine And.intro (fun h => ?_) (fun h => ?_)))
  refine loop_invS (fun i => i ≤ ps.length ∧ ∀ p ∈ ps.take i, (decide (p.node = node) && decide (p.binding = binding)) = false) [0, 1, 2, 7] 0 (fun i => [(7, ai i)]) (fun _ => []) (fun i => ps.length - i) 0 (by decide) (by decide) ?_
  conv => whnf
  refine ⟨rfl, rfl, by simp, fun i ⟨hi, hp⟩ => ?_⟩
  repeat' (first
        | ((with_reducible refine step ?_); conv => whnf)
        | (with_reducible refine And.intro (fun _ => ?_) (fun _ => ?_))
        | (refine idx_nat hlt rfl ?_; conv => whnf)
        | (have hlt : i < ps.length := (by simp_all); refine idx_nat hlt rfl ?_; conv => whnf))
  all_goals try simp only [List.length_map, Bool.not_eq_true', Bool.not_eq_false', decide_eq_true_eq, decide_eq_false_iff_not] at *
  all_goals first
    | exact ⟨i + 1, ⟨hlt, none_take_succ hlt hp (by simp_all)⟩, by omega, by rw [wrap_succ (by omega)]; rfl, rfl⟩
    | (refine congrArg ai ?_; rw [polIdx, findIdx_some hlt hp (by simp_all)]; done)
    | (refine congrArg ai ?_; rw [polIdx, findIdx_none (by omega) hp]; done)

def polFind (ps : List Policy) (node binding : Int) : Option Policy := (polIdx ps node binding).bind fun i => ps[i]?
theorem polFind_none {ps : List Policy} {node binding : Int} (h : polIdx ps node binding = none) : polFind ps node binding = none := by simp [polFind, h]
theorem polFind_some {ps : List Policy} {node binding : Int} {i : Nat} (hi : i < ps.length) (h : polIdx ps node binding = some i) : polFind ps node binding = some ps[i] := by simp [polFind, h, hi]
def polOr (p : Option Policy) : Policy := p.getD ⟨0, 0, []⟩

theorem find_c (ps : List Policy) (node binding : Int) (hl : ps.length < 4611686018427387904) :
    PureCall Try.prog F.policy_Find [asl (ps.map Policy.enc), ai node, ai binding] (.tuple [.agg (polOr (polFind ps node binding)).enc, .bool (polFind ps node binding).isSome]) := by
  refine contractS fits K.policy_Find ?_
  repeat' (first
    | ((with_reducible refine step ?_); conv => whnf)
    | (with_reducible refine And.intro (fun h => ?_) (fun h => ?_)))
  refine loop_invS (fun i => i ≤ ps.length ∧ ∀ p ∈ ps.take i, (decide (p.node = node) && decide (p.binding = binding)) = false) [1, 2, 6, 10, 11, 12] 1 (fun i => [(12, ai i)]) (fun _ => []) (fun i => ps.length - i) 0 (by decide) (by decide) ?_
  conv => whnf
  refine ⟨rfl, rfl, by simp, fun i ⟨hi, hp⟩ => ?_⟩
  repeat' (first
        | ((with_reducible refine step ?_); conv => whnf)
        | (with_reducible refine And.intro (fun _ => ?_) (fun _ => ?_))
        | (refine idx_nat hlt rfl ?_; conv => whnf)
        | (have hlt : i < ps.length := (by simp_all); refine idx_nat hlt rfl ?_; conv => whnf))
  all_goals try simp only [List.length_map, Bool.not_eq_true', Bool.not_eq_false', decide_eq_true_eq, decide_eq_false_iff_not] at *
  all_goals first
    | exact ⟨i + 1, ⟨hlt, none_take_succ hlt hp (by simp_all)⟩, by omega, by rw [wrap_succ (by omega)]; rfl, rfl⟩
    | (rw [polFind_some hlt (by rw [polIdx, findIdx_some hlt hp (by simp_all)])]; rfl)
    | (rw [polFind_none (by rw [polIdx, findIdx_none (by omega) hp])]; rfl)
theorem find21_c (ps : List Policy) (node binding : Int) (hl : ps.length < 4611686018427387904) :
    PureCall Try.prog F.ref21_Find [asl (ps.map Policy.enc), ai node, ai binding] (.tuple [.agg (polOr (polFind ps node binding)).enc, .bool (polFind ps node binding).isSome]) := by
  refine contractS fits K.ref21_Find ?_
  cases hi : polIdx ps node binding with
  | none =>
    repeat' (first
      | ((with_reducible refine step ?_); conv => whnf)
      | (refine call_pure (index21_c _ _ _ hl) rfl rfl ?_; rw [hi]; conv => whnf)
      | (with_reducible refine And.intro (fun h => ?_) (fun h => ?_))
      | fail)
    · rw [polFind_none hi]; rfl
    · simp at h
  | some i =>
    have hlt : i < ps.length := by
      have := List.findIdx?_eq_some_iff_getElem.1 hi
      exact this.1
    repeat' (first
      | ((with_reducible refine step ?_); conv => whnf)
      | (refine call_pure (index21_c _ _ _ hl) rfl rfl ?_; rw [hi]; conv => whnf)
      | (with_reducible refine And.intro (fun h => ?_) (fun h => ?_))
      | (refine idx_nat hlt rfl ?_; conv => whnf))
    · simp at h; omega
    · rw [polFind_some hlt hi]; rfl

theorem has9_c (l : List Int) (n : Int) (hl : l.length < 4611686018427387904) : PureCall Try.prog F.ref09_Has [asl (l.map eInt), ai n] (.bool (l.contains n)) := by
  refine contractS fits K.ref09_Has ?_
  repeat' (first
    | ((with_reducible refine step ?_); conv => whnf)
    | (with_reducible refine And.intro (fun h => ?_) (fun h => ?_)))
  refine loop_invS (fun i => i ≤ l.length ∧ ∀ p ∈ l.take i, decide (p = n) = false) [0, 1, 5] 0 (fun i => [(5, ai i)]) (fun _ => []) (fun i => l.length - i) 0 (by decide) (by decide) ?_
  conv => whnf
  refine ⟨rfl, rfl, by simp, fun i ⟨hi, hp⟩ => ?_⟩
  repeat' (first
        | ((with_reducible refine step ?_); conv => whnf)
        | (with_reducible refine And.intro (fun _ => ?_) (fun _ => ?_))
        | (have hlt : i < l.length := (by simp_all); refine idx_nat hlt rfl ?_; conv => whnf))
  all_goals try simp only [List.length_map, Bool.not_eq_true', Bool.not_eq_false', decide_eq_true_eq, decide_eq_false_iff_not] at *
  · refine congrArg AV.bool ?_
    symm; rw [List.contains_iff_mem]; rename_i h; rw [← h]; exact List.getElem_mem hlt
  · exact ⟨i + 1, ⟨hlt, fun x hx => by have := none_take_succ (p := fun x => decide (x = n)) hlt (by simpa using hp) (by simpa using ‹¬ l[i] = n›) x hx; simpa using this⟩, by omega, by rw [wrap_succ (by omega)]; rfl, rfl⟩
  · refine congrArg AV.bool ?_
    rw [List.take_of_length_le (by omega)] at hp
    symm; rw [Bool.eq_false_iff]; intro hc; exact hp n (List.contains_iff_mem.1 hc) rfl
end Go.Proofs.Ytmapiefbnjaikaa.Vm
/- Contracts: valid policies. -/
set_option linter.all false
namespace Go.Proofs.Ytmapiefbnjaikaa.Vm
open Go
set_option maxRecDepth 100000

def Policy.key (p : Policy) : Int × Int := (p.node, p.binding)
def Policy.good (t : Topology) (p : Policy) : Bool := decide (0 ≤ p.node) && decide (p.node < t.nodes) && decide (0 ≤ p.binding) && decide (p.binding ≤ 65535) && decide (p.list.length ≤ 32) && p.list.all (·.valid t)
def polsValid (t : Topology) (ps : List Policy) : Bool := t.valid && ps.all (·.good t) && decide ((ps.map Policy.key).Nodup)

def seenL (ps : List Policy) : List ((Int × Int) × Bool) := ps.map fun p => (p.key, true)
theorem seenL_keys (ps : List Policy) : (seenL ps).map (·.1) = ps.map Policy.key := by simp [seenL, Function.comp_def]
theorem seenL_lookup {ps : List Policy} {k : Int × Int} : (seenL ps).lookup k = none ↔ k ∉ ps.map Policy.key := by rw [lookup_none, seenL_keys]
theorem seenL_val {ps : List Policy} {k : Int × Int} {b : Bool} (h : (seenL ps).lookup k = some b) : b = true ∧ k ∈ ps.map Policy.key := by
  induction ps with
  | nil => simp [seenL] at h
  | cons p ps ih =>
    simp only [seenL, List.map_cons, List.lookup_cons] at h
    by_cases hk : k = p.key
    · subst hk; simp at h; simp [h]
    · have : (k == p.key) = false := by simp [hk]
      rw [this] at h
      obtain ⟨h1, h2⟩ := ih h
      exact ⟨h1, by simp [h2]⟩

theorem nodup_take_succ {ps : List Policy} {i : Nat} (hi : i < ps.length) (h : ((ps.take i).map Policy.key).Nodup) (hk : ps[i].key ∉ (ps.take i).map Policy.key) : ((ps.take (i + 1)).map Policy.key).Nodup := by
  rw [List.take_succ_eq_append_getElem hi, List.map_append, List.nodup_append]
  refine ⟨h, by simp, fun a ha b hb => ?_⟩
  simp at hb; subst hb
  exact fun e => hk (e ▸ ha)
theorem dup_all {ps : List Policy} {i : Nat} (hi : i < ps.length) (hk : ps[i].key ∈ (ps.take i).map Policy.key) : ¬ (ps.map Policy.key).Nodup := by
  intro hn
  have : ps = ps.take i ++ ps[i] :: ps.drop (i + 1) := by rw [← List.drop_eq_getElem_cons hi, List.take_append_drop]
  rw [this, List.map_append, List.nodup_append] at hn
  exact hn.2.2 _ hk ps[i].key (List.mem_map.2 ⟨_, List.mem_cons_self, rfl⟩) rfl

def eB (b : Bool) : AV := .bool b
theorem seen_put {ps : List Policy} {i : Nat} (hi : i < ps.length) (h : (seenL (ps.take i)).lookup ps[i].key = none) : putM ks2 (.agg [ai ps[i].node, ai ps[i].binding]) (.bool true) (eMap eB (seenL (ps.take i))) = eMap eB (seenL (ps.take (i + 1))) := by
  have := putM2 ps[i].key eB true _ h
  rw [List.take_succ_eq_append_getElem hi, show seenL (ps.take i ++ [ps[i]]) = seenL (ps.take i) ++ [(ps[i].key, true)] by unfold seenL; rw [List.map_append]; rfl]
  exact this

theorem polsValid_c (t : Topology) (ps : List Policy) (hl : ps.length < 4611686018427387904) (hls : ∀ p ∈ ps, p.list.length < 4611686018427387904) : PureCall Try.prog F.policy_Valid [.agg t.enc, asl (ps.map Policy.enc)] (.bool (polsValid t ps)) := by
  refine contractS fits K.policy_Valid ?_
  repeat' (first
    | ((with_reducible refine step ?_); conv => whnf)
    | (refine call_pure (valid_c _) rfl rfl ?_; conv => whnf)
    | (with_reducible refine And.intro (fun h => ?_) (fun h => ?_))
    | fail)
  · refine congrArg AV.bool ?_
    simp at h; simp [polsValid, h]
  · simp at h
    refine loop_invS (fun i => i ≤ ps.length ∧ (∀ p ∈ ps.take i, p.good t = true) ∧ ((ps.take i).map Policy.key).Nodup) [2, 5, 13, 14, 15] 2 (fun i => [(15, ai i)]) (fun i => [(1, .map 0 0 (eMap eB (seenL (ps.take i))))]) (fun i => ps.length - i) 0 (by decide) (by decide) ?_
    conv => whnf
    refine ⟨rfl, rfl, by simp, fun i ⟨hi, hp, hn⟩ => ?_⟩
    repeat' (first
        | ((with_reducible refine step ?_); conv => whnf)
        | (with_reducible refine And.intro (fun h => ?_) (fun h => ?_))
        | (refine idx_nat hlt rfl ?_; conv => whnf)
        | (have hlt : i < ps.length := (by simp_all); refine idx_nat hlt rfl ?_; conv => whnf)
        | (refine call_pure (segsValid_c _ _ (hls _ (List.getElem_mem hlt))) rfl rfl ?_; conv => whnf)
        | (refine look2 ps[i].key eB _ (fun hlk => ?_) (fun b hlk => ?_) <;> (conv => whnf))
        | (refine And.intro (hasKs2 ps[i].key eB _) ?_; (conv => whnf))
        | fail)
    all_goals try simp only [List.length_map, Bool.not_eq_true', Bool.not_eq_false', decide_eq_true_eq, decide_eq_false_iff_not] at *
    all_goals first
      | (refine congrArg AV.bool ?_; rw [polsValid, all_false hlt (by simp [Policy.good]; omega), Bool.and_false, Bool.false_and]; done)
      | (refine congrArg AV.bool ?_; rw [polsValid, decide_eq_false (dup_all hlt (seenL_val hlk).2), Bool.and_false]; done)
      | (refine congrArg AV.bool ?_; rw [polsValid, all_false hlt (by simp_all [Policy.good]), Bool.and_false, Bool.false_and]; done)
      | (refine congrArg AV.bool ?_; rw [polsValid, all_true (by omega) hp, ‹t.valid = true›]; rw [List.take_of_length_le (by omega)] at hn; simp [hn]; done)
      | (refine ⟨i + 1, ⟨hlt, all_take_succ hlt hp ?_, nodup_take_succ hlt hn (seenL_lookup.1 hlk)⟩, by omega, by rw [wrap_succ (by omega)]; rfl, ?_⟩
         · simp only [Policy.good, Bool.and_eq_true, decide_eq_true_eq]; exact ⟨⟨⟨⟨⟨by omega, by omega⟩, by omega⟩, by omega⟩, by omega⟩, h⟩
         · rw [← seen_put hlt hlk]; rfl)
      | (have := (seenL_val hlk).1; simp_all; done)

theorem polsValid21_c (t : Topology) (ps : List Policy) (hl : ps.length < 4611686018427387904) (hls : ∀ p ∈ ps, p.list.length < 4611686018427387904) : PureCall Try.prog F.ref21_Valid [.agg t.enc, asl (ps.map Policy.enc)] (.bool (polsValid t ps)) := by
  refine contractS fits K.ref21_Valid ?_
  repeat' (first
    | ((with_reducible refine step ?_); conv => whnf)
    | (refine call_pure (valid9_c _) rfl rfl ?_; conv => whnf)
    | (with_reducible refine And.intro (fun h => ?_) (fun h => ?_))
    | fail)
  · refine congrArg AV.bool ?_
    simp at h; simp [polsValid, h]
  · simp at h
    refine loop_invS (fun i => i ≤ ps.length ∧ (∀ p ∈ ps.take i, p.good t = true) ∧ ((ps.take i).map Policy.key).Nodup) [1, 2, 5] 1 (fun i => [(5, ai i)]) (fun i => []) (fun i => ps.length - i) 0 (by decide) (by decide) ?_
    conv => whnf
    refine ⟨rfl, rfl, by simp, fun i ⟨hi, hp, hn⟩ => ?_⟩
    repeat' (first
        | ((with_reducible refine step ?_); conv => whnf)
        | (with_reducible refine And.intro (fun h => ?_) (fun h => ?_))
        | (refine idx_nat hlt rfl ?_; conv => whnf)
        | (have hlt : i < ps.length := (by simp_all); refine idx_nat hlt rfl ?_; conv => whnf)
        | (refine call_pure (segsValid21_c _ _ (hls _ (List.getElem_mem hlt))) rfl rfl ?_; conv => whnf)
        | fail)
    all_goals first
      | (refine loop_invS (fun k => k ≤ i ∧ ∀ p ∈ ps.take k, (decide (p.node = ps[i].node) && decide (p.binding = ps[i].binding)) = false) [1, 2, 5, 6, 7] 2 (fun k => [(7, ai k)]) (fun i => []) (fun k => i - k) 0 (by decide) (by decide) ?_
         (conv => whnf)
         refine ⟨rfl, rfl, by simp, fun k ⟨hk, hq⟩ => ?_⟩
         repeat' (first
          | ((with_reducible refine step ?_); conv => whnf)
          | (with_reducible refine And.intro (fun h => ?_) (fun h => ?_))
          | (refine idx_nat hkl rfl ?_; conv => whnf)
          | (have hki : k < i := (by simp_all); have hkl : k < ps.length := (by omega); refine idx_nat hkl rfl ?_; conv => whnf)
          | fail))
      | skip
    all_goals try simp only [List.length_map, Bool.not_eq_true', Bool.not_eq_false', decide_eq_true_eq, decide_eq_false_iff_not] at *
    all_goals first
      | (refine congrArg AV.bool ?_; rw [polsValid, all_false hlt (by simp [Policy.good]; omega), Bool.and_false, Bool.false_and]; done)
      | (refine ⟨k + 1, ⟨hki, none_take_succ hkl hq (by simp_all)⟩, by omega, by rw [wrap_succ (by omega)]; rfl, rfl⟩; done)
      | (refine congrArg AV.bool ?_; rw [polsValid, decide_eq_false (dup_all hlt (List.mem_map.2 ⟨ps[k], List.mem_take_iff_getElem.2 ⟨k, by omega, rfl⟩, by simp_all [Policy.key]⟩)), Bool.and_false]; done)
      | (refine congrArg AV.bool ?_; rw [polsValid, all_true (by omega) hp, ‹t.valid = true›]; rw [List.take_of_length_le (by omega)] at hn; simp [hn]; done)
      | (refine ⟨i + 1, ⟨hlt, all_take_succ hlt hp ?_, nodup_take_succ hlt hn ?_⟩, by omega, by rw [wrap_succ (by omega)]; rfl, rfl⟩
         · simp only [Policy.good, Bool.and_eq_true, decide_eq_true_eq]; exact ⟨⟨⟨⟨⟨by omega, by omega⟩, by omega⟩, by omega⟩, by omega⟩, by assumption⟩
         · intro hm
           obtain ⟨p, hp1, hp2⟩ := List.mem_map.1 hm
           have hki : k = i := by omega
           subst hki
           have := hq p hp1
           simp_all [Policy.key])
      | (refine congrArg AV.bool ?_; rw [polsValid, all_false hlt (by simp_all [Policy.good]), Bool.and_false, Bool.false_and]; done)
end Go.Proofs.Ytmapiefbnjaikaa.Vm
/- Contracts: the reference's expansion. -/
set_option linter.all false
namespace Go.Proofs.Ytmapiefbnjaikaa.Vm
open Go
set_option maxRecDepth 100000

/-- an expansion under way: what was kept, and where it stands -/
structure Exp where
  out : List Segment
  at_ : Int
def Exp.enc (s : Exp) : List AV := [asl (s.out.map Segment.enc), ai s.at_]
def Exp.keep (s : Exp) (x : Segment) (a : Int) : Exp × Int := if 32 ≤ s.out.length then (s, 6) else (⟨s.out ++ [x], a⟩, 0)
def eER (r : Exp × Int) : AV := .tuple [.agg r.1.enc, ai r.2]
theorem Exp.keep_len {s : Exp} {x : Segment} {a : Int} (h : s.out.length ≤ 32) : (s.keep x a).1.out.length ≤ 32 := by
  unfold Exp.keep; split
  · exact h
  · simp; omega

theorem keep21_c (s : Exp) (x : Segment) (a : Int) (h32 : s.out.length ≤ 32) : PureCall Try.prog F.ref21_state_keep [.agg s.enc, .agg x.enc, ai a] (eER (s.keep x a)) := by
  refine contractS fits K.ref21_state_keep ?_
  repeat' (first
    | ((with_reducible refine step ?_); conv => whnf)
    | (with_reducible refine And.intro (fun h => ?_) (fun h => ?_))
    | (refine And.intro ?_ ?_; (focus (simp [elemsOk, AV.oneC, big, Segment.enc]; (try omega); done)); conv => whnf)
    | fail)
  · simp at h
    simp [Exp.keep, eER, show 32 ≤ s.out.length by omega, Exp.enc]
  · simp at h
    simp [Exp.keep, eER, show ¬ 32 ≤ s.out.length by omega, Exp.enc, Segment.enc]

def runL (f : Exp → Segment → Exp × Int) : Exp → List Segment → Exp × Int
  | s, [] => (s, 0)
  | s, x :: l => if (f s x).2 ≠ 0 then f s x else runL f (f s x).1 l

/-- a segment is processed; opn: the policies that are being expanded; deep: what becomes of a policy's list -/
def oneG (t : Topology) (ps : List Policy) (opn : List Nat) (s : Exp) (x : Segment) (deep : Nat → Exp × Int) : Exp × Int :=
  if x.kind = 1 then s.keep x x.num
  else if x.kind = 3 then s.keep x (-1)
  else if s.at_ < 0 then (s, 7)
  else if x.kind = 2 then (if t.tail x.num ≠ s.at_ then (s, 4) else s.keep x (t.head x.num))
  else match polIdx ps s.at_ x.num with
    | none => (s, 8)
    | some i => if i ∈ opn then (s, 16) else deep i
def one21 (t : Topology) (ps : List Policy) : Nat → List Nat → Exp → Segment → Exp × Int
  | 0, opn, s, x => oneG t ps opn s x fun _ => (s, 16)
  | n + 1, opn, s, x => oneG t ps opn s x fun i => runL (one21 t ps n (opn ++ [i])) s (ps.getD i default).list
def ints (opn : List Nat) : List Int := opn.map fun (i : Nat) => (i : Int)
def eOpn (opn : List Nat) : AV := asl ((ints opn).map eInt)

theorem runL_len {f : Exp → Segment → Exp × Int} (hf : ∀ s x, s.out.length ≤ 32 → (f s x).1.out.length ≤ 32) : ∀ (l : List Segment) (s : Exp), s.out.length ≤ 32 → (runL f s l).1.out.length ≤ 32 := by
  intro l
  induction l with
  | nil => intro s h; exact h
  | cons x l ih =>
    intro s h
    unfold runL; split
    · exact hf s x h
    · exact ih _ (hf s x h)
theorem oneG_len {t : Topology} {ps : List Policy} {opn : List Nat} {s : Exp} {x : Segment} {deep : Nat → Exp × Int} (h : s.out.length ≤ 32) (hd : ∀ i, (deep i).1.out.length ≤ 32) : (oneG t ps opn s x deep).1.out.length ≤ 32 := by
  unfold oneG
  repeat' split
  all_goals first | exact h | exact Exp.keep_len h | exact hd _
theorem one21_len (t : Topology) (ps : List Policy) : ∀ (n : Nat) (opn : List Nat) (s : Exp) (x : Segment), s.out.length ≤ 32 → (one21 t ps n opn s x).1.out.length ≤ 32 := by
  intro n
  induction n with
  | zero => intro opn s x h; exact oneG_len h fun _ => h
  | succ n ih => intro opn s x h; exact oneG_len h fun i => runL_len (fun s x h => ih _ s x h) _ _ h

/-- what the recursion needs -/
structure OpnOk (ps : List Policy) (opn : List Nat) (n : Nat) : Prop where
  nodup : opn.Nodup
  lt : ∀ i ∈ opn, i < ps.length
  fuel : ps.length ≤ opn.length + n
theorem nodup_len : ∀ {n : Nat} {l : List Nat}, l.Nodup → (∀ i ∈ l, i < n) → l.length ≤ n := by
  intro n l h1 h2
  have : l ⊆ List.range n := fun i hi => List.mem_range.2 (h2 i hi)
  have := List.Nodup.length_le_of_subset h1 this
  simpa using this
theorem OpnOk.succ {ps : List Policy} {opn : List Nat} {n i : Nat} (h : OpnOk ps opn (n + 1)) (hi : i < ps.length) (hn : i ∉ opn) : OpnOk ps (opn ++ [i]) n :=
  ⟨by rw [List.nodup_append]; exact ⟨h.nodup, by simp, fun a ha b hb => by simp at hb; subst hb; exact fun e => hn (e ▸ ha)⟩, fun j hj => by
    rcases List.mem_append.1 hj with hj | hj
    · exact h.lt j hj
    · simp at hj; omega, by have := h.fuel; simp; omega⟩
theorem OpnOk.zero {ps : List Policy} {opn : List Nat} {i : Nat} (h : OpnOk ps opn 0) (hi : i < ps.length) (hn : i ∉ opn) : False := by
  have h1 := h.fuel
  have := nodup_len (n := ps.length) (l := opn ++ [i]) (by rw [List.nodup_append]; exact ⟨h.nodup, by simp, fun a ha b hb => by simp at hb; subst hb; exact fun e => hn (e ▸ ha)⟩) (fun j hj => by
    rcases List.mem_append.1 hj with hj | hj
    · exact h.lt j hj
    · simp at hj; omega)
  simp at this; omega

theorem polIdx_lt {ps : List Policy} {a b : Int} {i : Nat} (h : polIdx ps a b = some i) : i < ps.length := (List.findIdx?_eq_some_iff_getElem.1 h).1
theorem has_opn {opn : List Nat} {i : Nat} : (ints opn).contains (i : Int) = decide (i ∈ opn) := by
  rw [Bool.eq_iff_iff, List.contains_iff_mem, decide_eq_true_eq]
  simp only [ints, List.mem_map]
  exact ⟨fun ⟨a, h, e⟩ => (show a = i by omega) ▸ h, fun h => ⟨i, h, rfl⟩⟩

/-- .. one step, where lists of deeper ones have their contract -/
theorem oneG_c (t : Topology) (ps : List Policy) (hl : ps.length < 4611686018427387904) (hls : ∀ p ∈ ps, p.list.length < 4611686018427387904) (opn : List Nat) (s : Exp) (x : Segment) (h32 : s.out.length ≤ 32) (hop : opn.length ≤ ps.length) (h1000 : ps.length ≤ 1000) (deep : Nat → Exp × Int)
    (hall : ∀ i (hi : i < ps.length), i ∉ opn → PureCall Try.prog F.ref21_all [.agg t.enc, asl (ps.map Policy.enc), .agg s.enc, asl (ps[i].list.map Segment.enc), asl ((ints opn).map eInt ++ [[ai (i : Int)]])] (eER (deep i))) :
    PureCall Try.prog F.ref21_one [.agg t.enc, asl (ps.map Policy.enc), .agg s.enc, .agg x.enc, eOpn opn] (eER (oneG t ps opn s x deep)) := by
  refine contractS fits K.ref21_one ?_
  have hin : (ints opn).length = opn.length := by simp [ints]
  rcases hpi : polIdx ps s.at_ x.num with _ | i
  · repeat' (first
      | ((with_reducible refine step ?_); conv => whnf)
      | (with_reducible refine And.intro (fun h => ?_) (fun h => ?_))
      | (refine call_pure (keep21_c s x _ h32) rfl rfl ?_; conv => whnf)
      | (refine call_pure (tail9_c _ _) rfl rfl ?_; conv => whnf)
      | (refine call_pure (head9_c _ _) rfl rfl ?_; conv => whnf)
      | (refine call_pure (index21_c ps s.at_ x.num hl) rfl rfl ?_; rw [hpi]; conv => whnf)
      | fail)
    all_goals simp only [decide_eq_true_eq, decide_eq_false_iff_not, decide_not, Bool.not_eq_true', Bool.not_eq_false'] at *
    all_goals first
      | (simp only [oneG, *, ↓reduceIte, not_false_eq_true, not_true_eq_false, ne_eq]; done)
      | (simp only [oneG, *, ↓reduceIte, not_false_eq_true, not_true_eq_false, ne_eq]; rfl)
      | (exfalso; omega)
  · have hil := polIdx_lt hpi
    have hgd : ps.getD i default = ps[i] := by simp [hil]
    repeat' (first
      | ((with_reducible refine step ?_); conv => whnf)
      | (with_reducible refine And.intro (fun h => ?_) (fun h => ?_))
      | (refine call_pure (keep21_c s x _ h32) rfl rfl ?_; conv => whnf)
      | (refine call_pure (tail9_c _ _) rfl rfl ?_; conv => whnf)
      | (refine call_pure (head9_c _ _) rfl rfl ?_; conv => whnf)
      | (refine call_pure (index21_c ps s.at_ x.num hl) rfl rfl ?_; rw [hpi]; conv => whnf)
      | (refine call_pure (has9_c (ints opn) i (by omega)) rfl rfl ?_; rw [has_opn]; conv => whnf)
      | (refine idx_nat hil rfl ?_; conv => whnf)
      | (refine And.intro ?_ ?_; (focus (simp [elemsOk, AV.oneC, big, eInt]; (try omega); done)); conv => whnf)
      | (refine call_pure (hall i hil (by simpa using h)) rfl rfl ?_; conv => whnf)
      | fail)
    all_goals simp only [decide_eq_true_eq, decide_eq_false_iff_not, decide_not, Bool.not_eq_true', Bool.not_eq_false'] at *
    all_goals first
      | (simp only [oneG, *, ↓reduceIte, not_false_eq_true, not_true_eq_false, ne_eq]; done)
      | (simp only [oneG, *, ↓reduceIte, not_false_eq_true, not_true_eq_false, ne_eq]; rfl)
      | (exfalso; omega)

section
variable (t : Topology) (ps : List Policy) (hl : ps.length < 4611686018427387904) (hls : ∀ p ∈ ps, p.list.length < 4611686018427387904) (h1000 : ps.length ≤ 1000)

theorem runL_snoc {f : Exp → Segment → Exp × Int} : ∀ (l : List Segment) (s : Exp) (x : Segment), (runL f s l).2 = 0 → runL f s (l ++ [x]) = runL f (runL f s l).1 [x] := by
  intro l
  induction l with
  | nil => intro s x _; rfl
  | cons y l ih =>
    intro s x h
    unfold runL at h
    show (if (f s y).2 ≠ 0 then f s y else runL f (f s y).1 (l ++ [x])) = _
    split at h
    · contradiction
    · rename_i he
      rw [if_neg he, ih _ _ h]
      show _ = runL f (if (f s y).2 ≠ 0 then f s y else runL f (f s y).1 l).1 [x]
      rw [if_neg he]
theorem runL_err {f : Exp → Segment → Exp × Int} : ∀ (l : List Segment) (s : Exp) (l' : List Segment), (runL f s l).2 ≠ 0 → runL f s (l ++ l') = runL f s l := by
  intro l
  induction l with
  | nil => intro s l' h; exact (h rfl).elim
  | cons y l ih =>
    intro s l' h
    show (if (f s y).2 ≠ 0 then f s y else runL f (f s y).1 (l ++ l')) = _
    unfold runL at h
    have e0 : runL f s (y :: l) = if (f s y).2 ≠ 0 then f s y else runL f (f s y).1 l := rfl
    rw [e0]
    split at h
    · rename_i he; rw [if_pos he, if_pos he]
    · rename_i he; rw [if_neg he, if_neg he]; exact ih _ _ h
theorem runL_at {f : Exp → Segment → Exp × Int} {l : List Segment} {s : Exp} {i : Nat} (hi : i < l.length) (h : (runL f s (l.take i)).2 = 0) :
    runL f s (l.take (i + 1)) = (if (f (runL f s (l.take i)).1 l[i]).2 ≠ 0 then f (runL f s (l.take i)).1 l[i] else ((f (runL f s (l.take i)).1 l[i]).1, 0)) := by
  rw [List.take_succ_eq_append_getElem hi, runL_snoc _ _ _ h]; rfl
theorem runL_stop {f : Exp → Segment → Exp × Int} {l : List Segment} {s : Exp} {i : Nat} (hi : i < l.length) (h : (runL f s (l.take i)).2 = 0) (he : (f (runL f s (l.take i)).1 l[i]).2 ≠ 0) : runL f s l = f (runL f s (l.take i)).1 l[i] := by
  have := runL_at hi h
  rw [if_pos he] at this
  have h2 := runL_err (f := f) (l.take (i + 1)) s (l.drop (i + 1)) (by rw [this]; exact he)
  rw [List.take_append_drop] at h2
  rw [h2, this]

theorem all21_c (f : Exp → Segment → Exp × Int) (opn : List Nat) (hf : ∀ (s : Exp) (x : Segment), s.out.length ≤ 32 → (f s x).1.out.length ≤ 32 ∧ PureCall Try.prog F.ref21_one [.agg t.enc, asl (ps.map Policy.enc), .agg s.enc, .agg x.enc, eOpn opn] (eER (f s x)))
    (s : Exp) (l : List Segment) (h32 : s.out.length ≤ 32) (hlen : l.length < 4611686018427387904) :
    PureCall Try.prog F.ref21_all [.agg t.enc, asl (ps.map Policy.enc), .agg s.enc, asl (l.map Segment.enc), eOpn opn] (eER (runL f s l)) := by
  refine contractS fits K.ref21_all ?_
  repeat' (first
      | ((with_reducible refine step ?_); conv => whnf)
      | fail)
  refine loop_invS (fun i => i ≤ l.length ∧ (runL f s (l.take i)).2 = 0) [1, 3, 4, 5, 7, 10, 12] 3 (fun i => [(12, ai i)]) (fun i => [(1, .box (runL f s (l.take i)).1.enc false)]) (fun i => l.length - i) 0 (by decide) (by decide) ?_
  conv => whnf
  refine ⟨rfl, rfl, ⟨by omega, rfl⟩, fun i ⟨hi, hp⟩ => ?_⟩
  have h32i : (runL f s (l.take i)).1.out.length ≤ 32 := runL_len (fun s x h => (hf s x h).1) _ _ h32
  repeat' (first
      | ((with_reducible refine step ?_); conv => whnf)
      | (with_reducible refine And.intro (fun h => ?_) (fun h => ?_))
      | (have hlt : i < l.length := (by simp_all); refine idx_nat hlt rfl ?_; conv => whnf)
      | (refine call_pure (hf (runL f s (l.take i)).1 l[i] h32i).2 rfl rfl ?_; conv => whnf)
      | fail)
  all_goals try simp only [List.length_map, Bool.not_eq_true', Bool.not_eq_false', decide_eq_true_eq, decide_eq_false_iff_not] at *
  · rw [runL_stop hlt hp h]; rfl
  · refine ⟨i + 1, ⟨hlt, ?_⟩, by omega, by rw [wrap_succ (by omega)]; rfl, ?_⟩
    · rw [runL_at hlt hp, if_neg (by simp [h])]
    · rw [runL_at hlt hp, if_neg (by simp [h])]; rfl
  · rw [List.take_of_length_le (by omega)] at hp ⊢
    rw [show eER (runL f s l) = eER ((runL f s l).1, (runL f s l).2) from rfl, hp]; rfl
end

theorem exp21_c (t : Topology) (ps : List Policy) (hls : ∀ p ∈ ps, p.list.length < 4611686018427387904) (h1000 : ps.length ≤ 1000) : ∀ (n : Nat) (opn : List Nat) (s : Exp) (x : Segment), OpnOk ps opn n → s.out.length ≤ 32 →
    PureCall Try.prog F.ref21_one [.agg t.enc, asl (ps.map Policy.enc), .agg s.enc, .agg x.enc, eOpn opn] (eER (one21 t ps n opn s x)) := by
  intro n
  induction n with
  | zero =>
    intro opn s x ho h32
    exact oneG_c t ps (by omega) hls opn s x h32 (nodup_len ho.nodup ho.lt) h1000 _ fun i hi hn => (ho.zero hi hn).elim
  | succ n ih =>
    intro opn s x ho h32
    refine oneG_c t ps (by omega) hls opn s x h32 (nodup_len ho.nodup ho.lt) h1000 _ fun i hi hn => ?_
    have ho' := ho.succ hi hn
    have hg : ps.getD i default = ps[i] := by simp [hi]
    have := all21_c t ps (one21 t ps n (opn ++ [i])) (opn ++ [i]) (fun s x h => ⟨one21_len t ps n _ s x h, ih _ s x ho' h⟩) s ps[i].list h32 (hls _ (List.getElem_mem hi))
    rw [hg]
    have he : eOpn (opn ++ [i]) = asl ((ints opn).map eInt ++ [[ai (i : Int)]]) := by simp [eOpn, ints, eInt]
    rw [he] at this
    exact this

/-- the expansion of a list, as the reference has it -/
def expand21 (t : Topology) (ps : List Policy) (node : Int) (l : List Segment) : List Segment × Int :=
  if polsValid t ps = false ∨ l.all (·.valid t) = false then ([], 1)
  else if node < 0 ∨ t.nodes ≤ node then ([], 2)
  else if (runL (one21 t ps ps.length []) ⟨[], node⟩ l).2 ≠ 0 then ([], (runL (one21 t ps ps.length []) ⟨[], node⟩ l).2) else ((runL (one21 t ps ps.length []) ⟨[], node⟩ l).1.out, 0)
theorem expand21_c (t : Topology) (ps : List Policy) (node : Int) (l : List Segment) (hls : ∀ p ∈ ps, p.list.length < 4611686018427387904) (h1000 : ps.length ≤ 1000) (hlen : l.length < 4611686018427387904) :
    PureCall Try.prog F.ref21_Expand [.agg t.enc, asl (ps.map Policy.enc), ai node, asl (l.map Segment.enc)] (.tuple [asl ((expand21 t ps node l).1.map Segment.enc), ai (expand21 t ps node l).2]) := by
  refine contractS fits K.ref21_Expand ?_
  have hall := all21_c t ps (one21 t ps ps.length []) [] (fun s x h => ⟨one21_len t ps _ _ s x h, exp21_c t ps hls h1000 ps.length [] s x ⟨.nil, by simp, by simp⟩ h⟩) ⟨[], node⟩ l (by simp) hlen
  repeat' (first
      | ((with_reducible refine step ?_); conv => whnf)
      | (with_reducible refine And.intro (fun h => ?_) (fun h => ?_))
      | (refine call_pure (polsValid21_c t ps (by omega) hls) rfl rfl ?_; conv => whnf)
      | (refine call_pure (segsValid21_c t l hlen) rfl rfl ?_; conv => whnf)
      | (refine call_pure hall rfl rfl ?_; conv => whnf)
      | fail)
  all_goals simp only [decide_eq_true_eq, decide_eq_false_iff_not, decide_not, Bool.not_eq_true', Bool.not_eq_false'] at *
  all_goals (simp only [expand21, *, ↓reduceIte, not_false_eq_true, not_true_eq_false, ne_eq, or_true, true_or, Bool.true_eq_false, or_self, or_false, false_or]; first | done | rfl)
end Go.Proofs.Ytmapiefbnjaikaa.Vm
/- Contracts: the program's expansion. -/
set_option linter.all false
namespace Go.Proofs.Ytmapiefbnjaikaa.Vm
open Go
set_option maxRecDepth 100000

def eSegs (l : List Segment) : AV := asl (l.map Segment.enc)
def polL (ps : List Policy) : List ((Int × Int) × List Segment) := ps.map fun p => (p.key, p.list)
def opnL (opn : List (Int × Int)) : List ((Int × Int) × Bool) := opn.map fun k => (k, true)
/-- the objects of an expansion: the receiver, the policies, those that are open, what was kept -/
def xS (t : Topology) (ps : List Policy) (opn : List (Int × Int)) (s : Exp) : List VObj :=
  [.box [ai t.nodes, asl (t.overload.map eBool), asl (t.links.map Link.enc), .map 1, .map 2, ai s.at_, .sall 3 0] false, .map 0 0 (eMap eSegs (polL ps)), .map 0 0 (eMap eB (opnL opn)), .arr 0 2 none (s.out.map Segment.enc) false]
def keepP (s : Exp) (x : Segment) : Exp × Int := if s.out.length = 32 then (s, 6) else (⟨s.out ++ [x], s.at_⟩, 0)
theorem keepP_len {s : Exp} {x : Segment} (h : s.out.length ≤ 32) : (keepP s x).1.out.length ≤ 32 := by
  unfold keepP; split
  · exact h
  · simp; omega

theorem keep_o (t : Topology) (ps : List Policy) (opn : List (Int × Int)) (s : Exp) (x : Segment) (h32 : s.out.length ≤ 32) :
    ObjCall Try.prog false F.policy_expansion_keep [.ptr 0 0, .agg x.enc] (xS t ps opn s) (ai (keepP s x).2) (xS t ps opn (keepP s x).1) := by
  refine objCallS fits K.policy_expansion_keep ?_
  repeat' (first
      | ((with_reducible refine step ?_); conv => whnf)
      | (with_reducible refine And.intro (fun h => ?_) (fun h => ?_))
      | (refine And.intro ?_ ?_; (focus (simp [elemsOk, AV.oneC, big, Segment.enc]; (try omega); done)); conv => whnf)
      | fail)
  all_goals simp only [decide_eq_true_eq, decide_eq_false_iff_not, List.length_map] at *
  · rw [keepP, if_pos (by omega)]; exact ⟨rfl, rfl⟩
  · rw [keepP, if_neg (by omega)]; refine ⟨rfl, ?_⟩; simp [xS, Segment.enc]; rfl

def oneP (t : Topology) (ps : List Policy) (opn : List (Int × Int)) (s : Exp) (x : Segment) (deep : List Segment → Exp × Int) : Exp × Int :=
  if x.kind = 1 then keepP ⟨s.out, x.num⟩ x
  else if x.kind = 3 then keepP ⟨s.out, -1⟩ x
  else if s.at_ < 0 then (s, 7)
  else if x.kind = 2 then (if t.tail x.num ≠ s.at_ then (s, 4) else keepP ⟨s.out, t.head x.num⟩ x)
  else match (polL ps).lookup (s.at_, x.num) with
    | none => (s, 8)
    | some l => if (s.at_, x.num) ∈ opn then (s, 16) else deep l
theorem opnL_none {opn : List (Int × Int)} {k : Int × Int} : (opnL opn).lookup k = none ↔ k ∉ opn := by
  rw [lookup_none]; simp [opnL, Function.comp_def]
theorem opnL_val {opn : List (Int × Int)} {k : Int × Int} {b : Bool} (h : (opnL opn).lookup k = some b) : b = true ∧ k ∈ opn := by
  induction opn with
  | nil => simp [opnL] at h
  | cons p ps ih =>
    simp only [opnL, List.map_cons, List.lookup_cons] at h
    by_cases hk : k = p
    · subst hk; simp at h; simp [h]
    · have : (k == p) = false := by simp [hk]
      rw [this] at h
      obtain ⟨h1, h2⟩ := ih h
      exact ⟨h1, by simp [h2]⟩
theorem opn_put {opn : List (Int × Int)} {a b : Int} (h : (opnL opn).lookup (a, b) = none) : putM ks2 (.agg [ai a, ai b]) (.bool true) (eMap eB (opnL opn)) = eMap eB (opnL (opn ++ [(a, b)])) := by
  have := putM2 (a, b) eB true _ h
  rw [show opnL (opn ++ [(a, b)]) = opnL opn ++ [((a, b), true)] by unfold opnL; rw [List.map_append]; rfl]
  exact this
theorem opn_del {opn : List (Int × Int)} {a b : Int} (h : (opnL opn).lookup (a, b) = none) : delM ks2 (.agg [ai a, ai b]) (eMap eB (opnL (opn ++ [(a, b)]))) = eMap eB (opnL opn) := by
  have := delM2 (a, b) eB true _ h
  rw [show opnL (opn ++ [(a, b)]) = opnL opn ++ [((a, b), true)] by unfold opnL; rw [List.map_append]; rfl]
  exact this

/-- .. of one segment, where deeper lists have their contract -/
theorem seg_o (t : Topology) (ps : List Policy) (opn : List (Int × Int)) (s : Exp) (x : Segment) (h32 : s.out.length ≤ 32) (deep : List Segment → Exp × Int)
    (hall : ∀ l, (polL ps).lookup (s.at_, x.num) = some l → (s.at_, x.num) ∉ opn → (deep l).1.out.length ≤ 32 ∧ ObjCall Try.prog false F.policy_expansion_list [.ptr 0 0, eSegs l] (xS t ps (opn ++ [(s.at_, x.num)]) s) (ai (deep l).2) (xS t ps (opn ++ [(s.at_, x.num)]) (deep l).1)) :
    ObjCall Try.prog false F.policy_expansion_segment [.ptr 0 0, .agg x.enc] (xS t ps opn s) (ai (oneP t ps opn s x deep).2) (xS t ps opn (oneP t ps opn s x deep).1) := by
  refine objCallS fits K.policy_expansion_segment ?_
  repeat' (first
      | (exfalso; revert h; decide)
      | ((with_reducible refine step ?_); conv => whnf)
      | (with_reducible refine And.intro (fun h => ?_) (fun h => ?_))
      | (refine vcall_obj (keep_o t ps opn ⟨s.out, x.num⟩ x h32) [0, 1, 2, 3] rfl rfl rfl (Nat.le_refl 4) rfl rfl rfl ?_; conv => whnf)
      | (refine vcall_obj (keep_o t ps opn ⟨s.out, -1⟩ x h32) [0, 1, 2, 3] rfl rfl rfl (Nat.le_refl 4) rfl rfl rfl ?_; conv => whnf)
      | (refine vcall_obj (keep_o t ps opn ⟨s.out, t.head x.num⟩ x h32) [0, 1, 2, 3] rfl rfl rfl (Nat.le_refl 4) rfl rfl rfl ?_; conv => whnf)
      | (refine call_pure (tail_c _ _) rfl rfl ?_; conv => whnf)
      | (refine call_pure (head_c _ _) rfl rfl ?_; conv => whnf)
      | (refine look2 (s.at_, x.num) eSegs _ (fun hlk => ?_) (fun l hlk => ?_) <;> (conv => whnf))
      | (refine look2 (s.at_, x.num) eB _ (fun hopn => ?_) (fun b hopn => ?_) <;> (conv => whnf))
      | (refine And.intro (hasKs2 (s.at_, x.num) eB _) ?_; (conv => whnf); first | rw [opn_put hopn] | rw [opn_del hopn])
      | (refine vcall_obj (hall l hlk (opnL_none.1 hopn)).2 [0, 1, 2, 3] rfl rfl rfl (Nat.le_refl 4) rfl rfl rfl ?_; conv => whnf)
      | fail)
  all_goals simp only [decide_eq_true_eq, decide_eq_false_iff_not, decide_not, Bool.not_eq_true', Bool.not_eq_false'] at *
  all_goals first
    | (exact absurd ((opnL_val hopn).1.symm.trans ‹b = false›) (by decide))
    | (have hm := (opnL_val hopn).2; constructor <;> (simp only [oneP, *, ↓reduceIte, not_false_eq_true, not_true_eq_false, ne_eq]; first | done | rfl); done)
    | (have hm := opnL_none.1 hopn; constructor <;> (simp only [oneP, *, ↓reduceIte, not_false_eq_true, not_true_eq_false, ne_eq]; first | done | rfl); done)
    | (constructor <;> (simp only [oneP, *, ↓reduceIte, not_false_eq_true, not_true_eq_false, ne_eq]; first | done | rfl); done)

def segP (t : Topology) (ps : List Policy) : Nat → List (Int × Int) → Exp → Segment → Exp × Int
  | 0, opn, s, x => oneP t ps opn s x fun _ => (s, 16)
  | n + 1, opn, s, x => oneP t ps opn s x fun l => runL (segP t ps n (opn ++ [(s.at_, x.num)])) s l
theorem oneP_len {t : Topology} {ps : List Policy} {opn : List (Int × Int)} {s : Exp} {x : Segment} {deep : List Segment → Exp × Int} (h : s.out.length ≤ 32) (hd : ∀ i, (deep i).1.out.length ≤ 32) : (oneP t ps opn s x deep).1.out.length ≤ 32 := by
  unfold oneP
  repeat' split
  all_goals first | exact h | exact keepP_len h | exact hd _
theorem segP_len (t : Topology) (ps : List Policy) : ∀ (n : Nat) (opn : List (Int × Int)) (s : Exp) (x : Segment), s.out.length ≤ 32 → (segP t ps n opn s x).1.out.length ≤ 32 := by
  intro n
  induction n with
  | zero => intro opn s x h; exact oneP_len h fun _ => h
  | succ n ih => intro opn s x h; exact oneP_len h fun i => runL_len (fun s x h => ih _ s x h) _ _ h

/-- .. of a list -/
theorem list_o (t : Topology) (ps : List Policy) (opn : List (Int × Int)) (f : Exp → Segment → Exp × Int)
    (hf : ∀ (s : Exp) (x : Segment), s.out.length ≤ 32 → (f s x).1.out.length ≤ 32 ∧ ObjCall Try.prog false F.policy_expansion_segment [.ptr 0 0, .agg x.enc] (xS t ps opn s) (ai (f s x).2) (xS t ps opn (f s x).1))
    (s : Exp) (l : List Segment) (h32 : s.out.length ≤ 32) (hlen : l.length < 4611686018427387904) :
    ObjCall Try.prog false F.policy_expansion_list [.ptr 0 0, eSegs l] (xS t ps opn s) (ai (runL f s l).2) (xS t ps opn (runL f s l).1) := by
  refine objCallS fits K.policy_expansion_list ?_
  repeat' (first
      | ((with_reducible refine step ?_); conv => whnf)
      | fail)
  refine loop_invS (fun i => i ≤ l.length ∧ (runL f s (l.take i)).2 = 0) [0, 8, 9, 10] 4 (fun i => [(10, ai i)]) (fun i => [(0, (xS t ps opn (runL f s (l.take i)).1).getD 0 .gone), (3, (xS t ps opn (runL f s (l.take i)).1).getD 3 .gone)]) (fun i => l.length - i) 0 (Nat.le_refl 4) (Nat.zero_le 4) ?_
  conv => whnf
  refine ⟨rfl, rfl, ⟨by omega, rfl⟩, fun i ⟨hi, hp⟩ => ?_⟩
  have h32i : (runL f s (l.take i)).1.out.length ≤ 32 := runL_len (fun s x h => (hf s x h).1) _ _ h32
  repeat' (first
      | ((with_reducible refine step ?_); conv => whnf)
      | (with_reducible refine And.intro (fun h => ?_) (fun h => ?_))
      | (have hlt : i < l.length := (by simp_all); refine idx_nat hlt rfl ?_; conv => whnf)
      | (refine vcall_obj (hf (runL f s (l.take i)).1 l[i] h32i).2 [0, 1, 2, 3] rfl rfl rfl (Nat.le_refl 4) rfl rfl rfl ?_; conv => whnf)
      | fail)
  all_goals try simp only [List.length_map, Bool.not_eq_true', Bool.not_eq_false', decide_not, decide_eq_true_eq, decide_eq_false_iff_not] at *
  · rw [runL_stop hlt hp h]; exact ⟨rfl, rfl⟩
  · refine ⟨i + 1, ⟨hlt, ?_⟩, by omega, by rw [wrap_succ (by omega)]; rfl, ?_⟩
    · rw [runL_at hlt hp, if_neg (by simp [h])]
    · rw [runL_at hlt hp, if_neg (by simp [h])]; rfl
  · rw [List.take_of_length_le (by omega)] at hp ⊢
    rw [hp]; exact ⟨rfl, rfl⟩
/-- what the recursion needs: as many policies as are not open -/
structure KeyOk (ps : List Policy) (opn : List (Int × Int)) (n : Nat) : Prop where
  nodup : opn.Nodup
  sub : ∀ k ∈ opn, k ∈ ps.map Policy.key
  fuel : ps.length ≤ opn.length + n
theorem KeyOk.succ {ps : List Policy} {opn : List (Int × Int)} {n : Nat} {k : Int × Int} (h : KeyOk ps opn (n + 1)) (hk : k ∈ ps.map Policy.key) (hn : k ∉ opn) : KeyOk ps (opn ++ [k]) n :=
  ⟨by rw [List.nodup_append]; exact ⟨h.nodup, by simp, fun a ha b hb => by simp at hb; subst hb; exact fun e => hn (e ▸ ha)⟩, fun j hj => by
    rcases List.mem_append.1 hj with hj | hj
    · exact h.sub j hj
    · simp at hj; subst hj; exact hk, by have := h.fuel; simp; omega⟩
theorem KeyOk.zero {ps : List Policy} {opn : List (Int × Int)} {k : Int × Int} (h : KeyOk ps opn 0) (hk : k ∈ ps.map Policy.key) (hn : k ∉ opn) : False := by
  have h1 := h.fuel
  have : (opn ++ [k]).length ≤ (ps.map Policy.key).length := List.Nodup.length_le_of_subset (by rw [List.nodup_append]; exact ⟨h.nodup, by simp, fun a ha b hb => by simp at hb; subst hb; exact fun e => hn (e ▸ ha)⟩) fun j hj => by
    rcases List.mem_append.1 hj with hj | hj
    · exact h.sub j hj
    · simp at hj; subst hj; exact hk
  simp at this; omega
theorem polL_mem {ps : List Policy} {k : Int × Int} {l : List Segment} (h : (polL ps).lookup k = some l) : k ∈ ps.map Policy.key ∧ ∃ p ∈ ps, p.list = l := by
  induction ps with
  | nil => simp [polL] at h
  | cons p ps ih =>
    simp only [polL, List.map_cons, List.lookup_cons] at h
    by_cases hk : k = p.key
    · subst hk; simp at h; exact ⟨by simp, p, by simp, h⟩
    · have : (k == p.key) = false := by simp [hk]
      rw [this] at h
      obtain ⟨h1, q, h2, h3⟩ := ih h
      exact ⟨by simp [h1], q, by simp [h2], h3⟩

theorem segP_o (t : Topology) (ps : List Policy) (hls : ∀ p ∈ ps, p.list.length < 4611686018427387904) : ∀ (n : Nat) (opn : List (Int × Int)) (s : Exp) (x : Segment), KeyOk ps opn n → s.out.length ≤ 32 →
    ObjCall Try.prog false F.policy_expansion_segment [.ptr 0 0, .agg x.enc] (xS t ps opn s) (ai (segP t ps n opn s x).2) (xS t ps opn (segP t ps n opn s x).1) := by
  intro n
  induction n with
  | zero =>
    intro opn s x ho h32
    exact seg_o t ps opn s x h32 _ fun l hl hn => (ho.zero (polL_mem hl).1 hn).elim
  | succ n ih =>
    intro opn s x ho h32
    refine seg_o t ps opn s x h32 _ fun l hl hn => ?_
    obtain ⟨hk, p, hp, rfl⟩ := polL_mem hl
    have ho' := ho.succ hk hn
    exact ⟨runL_len (fun s x h => segP_len t ps n _ s x h) _ _ h32, list_o t ps _ _ (fun s x h => ⟨segP_len t ps n _ s x h, ih _ s x ho' h⟩) s p.list h32 (hls p hp)⟩

/-- the program's expansion of a list -/
def expandP (t : Topology) (ps : List Policy) (node : Int) (l : List Segment) : List Segment × Int :=
  if polsValid t ps = false ∨ l.all (·.valid t) = false then ([], 1)
  else if node < 0 ∨ t.nodes ≤ node then ([], 2)
  else if (runL (segP t ps ps.length []) ⟨[], node⟩ l).2 ≠ 0 then ([], (runL (segP t ps ps.length []) ⟨[], node⟩ l).2) else ((runL (segP t ps ps.length []) ⟨[], node⟩ l).1.out, 0)
theorem pol_put {ps : List Policy} {i : Nat} (hi : i < ps.length) (hn : (ps.map Policy.key).Nodup) : putM ks2 (.agg [ai ps[i].node, ai ps[i].binding]) (asl (ps[i].list.map Segment.enc)) (eMap eSegs (polL (ps.take i))) = eMap eSegs (polL (ps.take (i + 1))) := by
  have hk : (polL (ps.take i)).lookup ps[i].key = none := by
    rw [lookup_none]
    intro hm
    rw [show (polL (ps.take i)).map (·.1) = (ps.take i).map Policy.key by simp [polL, Function.comp_def]] at hm
    exact dup_all hi hm hn
  have := putM2 ps[i].key eSegs ps[i].list _ hk
  rw [List.take_succ_eq_append_getElem hi, show polL (ps.take i ++ [ps[i]]) = polL (ps.take i) ++ [(ps[i].key, ps[i].list)] by unfold polL; rw [List.map_append]; rfl]
  exact this

theorem expandP_n (t : Topology) (ps : List Policy) (node : Int) (l : List Segment) (hls : ∀ p ∈ ps, p.list.length < 4611686018427387904) (h1000 : ps.length ≤ 1000) (hlen : l.length < 4611686018427387904) :
    PureNew Try.prog F.policy_Expand [.agg t.enc, asl (ps.map Policy.enc), ai node, asl (l.map Segment.enc)] (.tuple [asl ((expandP t ps node l).1.map Segment.enc), ai (expandP t ps node l).2]) := by
  refine contractN fits K.policy_Expand ?_
  have hall := list_o t ps [] (segP t ps ps.length []) (fun s x h => ⟨segP_len t ps _ _ s x h, segP_o t ps hls ps.length [] s x ⟨.nil, by simp, by simp⟩ h⟩) ⟨[], node⟩ l (by simp) hlen
  repeat' (first
      | ((with_reducible refine step ?_); conv => whnf)
      | (with_reducible refine And.intro (fun h => ?_) (fun h => ?_))
      | (refine call_pure (polsValid_c t ps (by omega) hls) rfl rfl ?_; conv => whnf)
      | (refine call_pure (segsValid_c t l hlen) rfl rfl ?_; conv => whnf)
      | (have hnd : (ps.map Policy.key).Nodup := (by simp_all [polsValid])
         refine loop_promoteBD (id := 3) (k := 6) (esz := 2) rfl rfl (by decide) ?_
         refine loop_invS (fun i => i ≤ ps.length) [3, 10, 40, 41, 42] 5 (fun i => [(42, ai i)]) (fun i => [(1, .map 0 0 (eMap eSegs (polL (ps.take i))))]) (fun i => ps.length - i) 0 (by decide) (by decide) ?_
         (conv => whnf)
         refine ⟨rfl, rfl, by omega, fun i hi => ?_⟩)
      | (have hlt : i < ps.length := (by simp_all); refine idx_nat hlt rfl ?_; conv => whnf)
      | (refine And.intro (hasKs2 ps[i].key eSegs _) ?_; (conv => whnf); rw [pol_put hlt hnd])
      | (obtain rfl : i = ps.length := (by simp at h; omega)
         rw [List.take_length]
         refine vcall_obj hall [3, 1, 2, 4] rfl rfl rfl (Nat.le_refl 4) rfl rfl rfl ?_
         (conv => whnf))
      | fail)
  all_goals try (refine And.intro ?_ ?_; focus (first
    | exact And.intro rfl (And.intro trivial trivial)
    | (refine And.intro (fun c hc x hx => ?_) (And.intro trivial trivial)
       obtain ⟨y, _, rfl⟩ := List.mem_map.1 hc
       simp only [Segment.enc, List.mem_cons, List.mem_nil_iff, or_false] at hx
       rcases hx with rfl | rfl <;> rfl)))
  all_goals try simp only [List.length_map, decide_eq_true_eq, decide_eq_false_iff_not, decide_not, Bool.not_eq_true', Bool.not_eq_false'] at *
  all_goals first
    | exact ⟨i + 1, hlt, by omega, by rw [wrap_succ (by omega)]; rfl, rfl⟩
    | (simp only [expandP, *, ↓reduceIte, not_false_eq_true, not_true_eq_false, ne_eq, or_true, true_or, Bool.true_eq_false, or_self, or_false, false_or]; first | done | rfl)
theorem expandP_c (t : Topology) (ps : List Policy) (node : Int) (l : List Segment) (hls : ∀ p ∈ ps, p.list.length < 4611686018427387904) (h1000 : ps.length ≤ 1000) (hlen : l.length < 4611686018427387904) :
    PureCall Try.prog F.policy_Expand [.agg t.enc, asl (ps.map Policy.enc), ai node, asl (l.map Segment.enc)] (.tuple [asl ((expandP t ps node l).1.map Segment.enc), ai (expandP t ps node l).2]) := (expandP_n t ps node l hls h1000 hlen).pure rfl
end Go.Proofs.Ytmapiefbnjaikaa.Vm
/- Contracts: numbers and texts of the references. -/
set_option linter.all false
namespace Go.Proofs.Ytmapiefbnjaikaa.Vm
open Go
set_option maxRecDepth 100000

def dig (n : Nat) : UInt8 := UInt8.ofNat (48 + n % 10)
def digF : Nat → Nat → List UInt8
  | 0, _ => []
  | k + 1, n => if n < 10 then [dig n] else digF k (n / 10) ++ [dig (n % 10)]
def digits (n : Nat) : List UInt8 := digF 20 n
theorem digF_len : ∀ (k n : Nat), (digF k n).length ≤ k := by
  intro k
  induction k with
  | zero => intro n; exact Nat.le_refl _
  | succ k ih =>
    intro n
    unfold digF
    split
    · simp
    · have := ih (n / 10); simp; omega
theorem u8_dig {n : Int} (h0 : 0 ≤ n) (h : n < 10) : UInt8.ofNat (IntKind.u8.wrap (IntKind.u64.wrap (48 + n))).toNat = dig n.toNat := by
  have e : IntKind.u8.wrap (IntKind.u64.wrap (48 + n)) = 48 + n := by
    obtain ⟨m, rfl⟩ := Int.eq_ofNat_of_zero_le h0
    have : m < 10 := by omega
    rcases m with _ | _ | _ | _ | _ | _ | _ | _ | _ | _ | m <;> first | rfl | omega
  rw [e]; unfold dig; congr 1; omega
theorem wrap_u64 {n : Int} (h0 : 0 ≤ n) (h : n < 18446744073709551616) : IntKind.u64.wrap n = n := by
  show (n % 18446744073709551616 : Int) = n
  omega

theorem digits_c : ∀ (k : Nat) (n : Int), k ≤ 20 → 0 ≤ n → n < 18446744073709551616 → n < (10 : Int) ^ k → 1 ≤ k → PureCall Try.prog F.ref09_digits [.int .u64 n] (.str (digF k n.toNat)) := by
  intro k
  induction k with
  | zero => intro n _ _ _ _ h; omega
  | succ k ih =>
    intro n hk h0 h1 h2 _
    refine contractS fits K.ref09_digits ?_
    have hrec : ¬ n < 10 → PureCall Try.prog F.ref09_digits [.int .u64 (IntKind.u64.wrap (n.tdiv 10))] (.str (digF k (n / 10).toNat)) := fun h10 => by
      rw [Int.tdiv_eq_ediv_of_nonneg h0, wrap_u64 (by omega) (by omega)]
      have hk1 : 1 ≤ k := by
        rcases Nat.eq_zero_or_pos k with rfl | h
        · simp at h2; omega
        · exact h
      exact ih (n / 10) (by omega) (by omega) (by omega) (by rw [Int.pow_succ] at h2; omega) hk1
    repeat' (first
      | (exfalso; revert h; decide)
      | ((with_reducible refine step ?_); conv => whnf)
      | (with_reducible refine And.intro (fun h => ?_) (fun h => ?_))
      | (with_reducible refine And.intro (show (_ : Int) ≠ 0 by decide) ?_; conv => whnf)
      | (refine call_pure (hrec (by simpa using h)) rfl rfl ?_; conv => whnf)
      | (refine And.intro (by have := digF_len k (n / 10).toNat; show _ + 1 ≤ _; omega) ?_; conv => whnf)
      | fail)
    all_goals simp only [decide_eq_true_eq, decide_eq_false_iff_not] at h
    · rw [u8_dig h0 h, digF, if_pos (by omega)]
    · rw [Int.tmod_eq_emod_of_nonneg h0, u8_dig (by omega) (by omega), digF, if_neg (by omega), show (n / 10).toNat = n.toNat / 10 by omega, show (n % 10).toNat = n.toNat % 10 by omega]

def number (n : Int) : List UInt8 := if n < 0 then 45 :: digits (-n).toNat else digits n.toNat
theorem number_len (n : Int) : (number n).length ≤ 21 := by
  unfold number digits
  split
  · have := digF_len 20 (-n).toNat; simp; omega
  · have := digF_len 20 n.toNat; omega
theorem number_c (n : Int) (h : i64 n) : PureCall Try.prog F.ref09_Number [ai n] (.str (number n)) := by
  unfold i64 at h
  refine contractS fits K.ref09_Number ?_
  have hneg : n < 0 → PureCall Try.prog F.ref09_digits [.int .u64 (IntKind.u64.wrap (IntKind.u64.wrap (IntKind.i64.wrap (0 - IntKind.i64.wrap (n + 1))) + 1))] (.str (digits (-n).toNat)) := fun h0 => by
    rw [wrap_in (n := n + 1) (by omega), wrap_in (by omega), wrap_u64 (n := 0 - (n + 1)) (by omega) (by omega), wrap_u64 (by omega) (by omega)]
    have := digits_c 20 (0 - (n + 1) + 1) (by omega) (by omega) (by omega) (by omega) (by omega)
    rwa [show (0 - (n + 1) + 1).toNat = (-n).toNat by omega] at this
  have hpos : ¬ n < 0 → PureCall Try.prog F.ref09_digits [.int .u64 (IntKind.u64.wrap n)] (.str (digits n.toNat)) := fun h0 => by
    rw [wrap_u64 (by omega) (by omega)]
    exact digits_c 20 n (by omega) (by omega) (by omega) (by omega) (by omega)
  repeat' (first
      | ((with_reducible refine step ?_); conv => whnf)
      | (with_reducible refine And.intro (fun h => ?_) (fun h => ?_))
      | (refine call_pure (hneg (by simpa using h)) rfl rfl ?_; conv => whnf)
      | (refine call_pure (hpos (by simpa using h)) rfl rfl ?_; conv => whnf)
      | (refine And.intro (by have := digF_len 20 (-n).toNat; show 1 + (digF 20 (-n).toNat).length ≤ _; omega) ?_; conv => whnf)
      | fail)
  all_goals simp only [decide_eq_true_eq, decide_eq_false_iff_not] at *
  · rw [number, if_pos (by assumption)]; rfl
  · rw [number, if_neg (by assumption)]

/-- the number that a text is read as -/
def valueF (l : List UInt8) : Int := (l.take 9).foldl (fun v c => 10 * v + (c.toNat : Int) - 48) 0
def bnd (i : Nat) : Int := 30 * ((10 : Int) ^ i - 1)
theorem value_bnd (l : List UInt8) : - bnd l.length ≤ l.foldl (fun v (c : UInt8) => 10 * v + (c.toNat : Int) - 48) 0 ∧ l.foldl (fun v (c : UInt8) => 10 * v + (c.toNat : Int) - 48) 0 ≤ bnd l.length := by
  rw [← List.reverse_reverse l]
  generalize l.reverse = r
  induction r with
  | nil => decide
  | cons c r ih =>
    rw [List.reverse_cons, List.foldl_append, List.length_append]
    simp only [List.foldl_cons, List.foldl_nil, List.length_cons, List.length_nil]
    generalize (r.reverse.foldl (fun v (c : UInt8) => 10 * v + (c.toNat : Int) - 48) 0) = v at ih ⊢
    generalize r.reverse.length = n at ih ⊢
    unfold bnd at ih ⊢
    have hc : (c.toNat : Int) < 256 := by have := c.toNat_lt; omega
    rw [show n + (0 + 1) = n + 1 by omega, Int.pow_succ]
    generalize (10 : Int) ^ n = p at ih ⊢
    omega
theorem bnd9 {i : Nat} (h : i ≤ 9) : bnd i ≤ 29999999970 := by
  unfold bnd
  have : i = 0 ∨ i = 1 ∨ i = 2 ∨ i = 3 ∨ i = 4 ∨ i = 5 ∨ i = 6 ∨ i = 7 ∨ i = 8 ∨ i = 9 := by omega
  rcases this with rfl | rfl | rfl | rfl | rfl | rfl | rfl | rfl | rfl | rfl <;> decide
theorem foldl_take_succ (l : List UInt8) (i : Nat) (hi : i < l.length) : (l.take (i + 1)).foldl (fun v (c : UInt8) => 10 * v + (c.toNat : Int) - 48) 0 = 10 * (l.take i).foldl (fun v (c : UInt8) => 10 * v + (c.toNat : Int) - 48) 0 + (l[i].toNat : Int) - 48 := by
  rw [List.take_succ_eq_append_getElem hi, List.foldl_append]; rfl
theorem u8_i64 (c : UInt8) : IntKind.i64.wrap (c.toNat : Int) = c.toNat := wrap_in (by have := c.toNat_lt; omega)

theorem value_c (l : List UInt8) (hl : l.length < 4611686018427387904) : PureCall Try.prog F.ref09_Value [.str l] (ai (valueF l)) := by
  refine contractS fits K.ref09_Value ?_
  repeat' (first
      | ((with_reducible refine step ?_); conv => whnf)
      | fail)
  refine loop_invS (fun i => i ≤ l.length ∧ i ≤ 9) [0, 3, 4] 0 (fun i => [(3, ai ((l.take i).foldl (fun v (c : UInt8) => 10 * v + (c.toNat : Int) - 48) 0)), (4, ai i)]) (fun _ => []) (fun i => 9 - i) 0 (by decide) (by decide) ?_
  conv => whnf
  refine ⟨rfl, rfl, by omega, fun i ⟨hi, h9⟩ => ?_⟩
  repeat' (first
      | ((with_reducible refine step ?_); conv => whnf)
      | (with_reducible refine And.intro (fun h => ?_) (fun h => ?_))
      | (refine And.intro (Int.natCast_nonneg i) (Exists.intro l[i] (And.intro (by simp) ?_)); conv => whnf)
      | (have hlt : i < l.length := (by simp_all); refine And.intro (Int.natCast_nonneg i) (Exists.intro l[i] (And.intro (by simp) ?_)); conv => whnf)
      | fail)
  all_goals simp only [decide_eq_true_eq, decide_eq_false_iff_not] at *
  · refine ⟨i + 1, by omega, by omega, ?_, rfl⟩
    have b1 := value_bnd (l.take i)
    have b2 := bnd9 (i := (l.take i).length) (by rw [List.length_take]; omega)
    have hc : (l[i].toNat : Int) < 256 := by have := l[i].toNat_lt; omega
    rw [foldl_take_succ l i hlt]
    generalize (l.take i).foldl (fun v (c : UInt8) => 10 * v + (c.toNat : Int) - 48) 0 = v at b1 ⊢
    generalize bnd (l.take i).length = bb at b1 b2
    rw [u8_i64, wrap_in (n := 10 * v) (by omega), wrap_in (n := 10 * v + _) (by omega), wrap_in (by omega), wrap_succ (by omega)]
    rfl
  · have : i = 9 := by omega
    subst this; rfl
  · rw [valueF, show l.take i = l.take 9 by rw [List.take_of_length_le (by omega), List.take_of_length_le (by omega)]]

def eStr (l : List UInt8) : List AV := [.str l]
/-- the parts of a text that end with a byte, and what follows the last one -/
def splitF (e : UInt8) : List UInt8 → List UInt8 → List (List UInt8) × List UInt8
  | [], cur => ([], cur)
  | c :: l, cur => if c = e then (cur :: (splitF e l []).1, (splitF e l []).2) else splitF e l (cur ++ [c])
theorem splitF_snoc (e c : UInt8) : ∀ (l cur : List UInt8), splitF e (l ++ [c]) cur = if c = e then ((splitF e l cur).1 ++ [(splitF e l cur).2], []) else ((splitF e l cur).1, (splitF e l cur).2 ++ [c]) := by
  intro l
  induction l with
  | nil =>
    intro cur
    show (if c = e then ([cur], []) else ([], cur ++ [c])) = _
    split <;> rfl
  | cons x l ih =>
    intro cur
    show (if x = e then (cur :: (splitF e (l ++ [c]) []).1, (splitF e (l ++ [c]) []).2) else splitF e (l ++ [c]) (cur ++ [x])) = _
    by_cases hx : x = e
    · rw [if_pos hx, ih]
      have : splitF e (x :: l) cur = (cur :: (splitF e l []).1, (splitF e l []).2) := by show (if x = e then _ else _) = _; rw [if_pos hx]
      rw [this]
      by_cases hc : c = e
      · rw [if_pos hc, if_pos hc]; rfl
      · rw [if_neg hc, if_neg hc]
    · rw [if_neg hx, ih]
      have : splitF e (x :: l) cur = splitF e l (cur ++ [x]) := by show (if x = e then _ else _) = _; rw [if_neg hx]
      rw [this]
theorem splitF_cur (e : UInt8) (l : List UInt8) : (splitF e l []).2.length ≤ l.length ∧ l.drop (l.length - (splitF e l []).2.length) = (splitF e l []).2 ∧ (splitF e l []).1.length ≤ l.length := by
  rw [← List.reverse_reverse l]
  generalize l.reverse = r
  induction r with
  | nil => exact ⟨Nat.le_refl _, rfl, Nat.le_refl _⟩
  | cons c r ih =>
    rw [List.reverse_cons, splitF_snoc]
    obtain ⟨h1, h2, h3⟩ := ih
    have hrr : r.reverse.length = r.length := List.length_reverse
    split
    · refine ⟨by simp, by simp, by simp; omega⟩
    · refine ⟨by simp; omega, ?_, by simp; omega⟩
      simp only [List.length_append, List.length_cons, List.length_nil]
      rw [show r.reverse.length + (0 + 1) - ((splitF e r.reverse []).2.length + (0 + 1)) = r.reverse.length - (splitF e r.reverse []).2.length by omega, List.drop_append_of_le_length (by omega), h2]

def split9 (l : List UInt8) (e : UInt8) : List (List UInt8) × Bool := ((splitF e l []).1, decide ((splitF e l []).2 = []))
theorem split9_c (l : List UInt8) (e : UInt8) (hl : l.length < 1099511627776) : PureCall Try.prog F.ref09_Split [.str l, .int .u8 e.toNat] (.tuple [asl ((split9 l e).1.map eStr), .bool (split9 l e).2]) := by
  refine contractS fits K.ref09_Split ?_
  repeat' (first
      | ((with_reducible refine step ?_); conv => whnf)
      | fail)
  refine loop_promoteD (k := 6) (esz := 1) rfl (by decide) ?_
  refine loop_invS (fun i => i ≤ l.length) [0, 1, 6, 7, 8] 1 (fun i => [(7, ai ((i - (splitF e (l.take i) []).2.length : Nat) : Int)), (8, ai i)]) (fun i => [(0, .arr 0 1 none ((splitF e (l.take i) []).1.map eStr) false)]) (fun i => l.length - i) 0 (by decide) (by decide) ?_
  conv => whnf
  refine ⟨rfl, rfl, by omega, fun i hi => ?_⟩
  have hcur := splitF_cur e (l.take i)
  have hti : (l.take i).length = i := by rw [List.length_take]; omega
  rw [hti] at hcur
  repeat' (first
      | ((with_reducible refine step ?_); conv => whnf)
      | (with_reducible refine And.intro (fun h => ?_) (fun h => ?_))
      | (have hlt : i < l.length := (by simp_all); refine And.intro (Int.natCast_nonneg i) (Exists.intro l[i] (And.intro (by simp) ?_)); conv => whnf)
      | (refine And.intro ⟨Int.natCast_nonneg _, Int.ofNat_le.2 (Nat.sub_le _ _), Int.ofNat_le.2 hi⟩ ?_; conv => whnf)
      | (refine And.intro ?_ ?_; (focus (simp [elemsOk, AV.oneC, big]; (try omega); done)); conv => whnf)
      | fail)
  all_goals try simp only [decide_eq_true_eq, decide_eq_false_iff_not] at *
  · have hce : l[i] = e := UInt8.toNat_inj.1 (by omega)
    have hs : splitF e (l.take (i + 1)) [] = ((splitF e (l.take i) []).1 ++ [(splitF e (l.take i) []).2], []) := by rw [List.take_succ_eq_append_getElem hlt, splitF_snoc, if_pos hce]
    refine ⟨i + 1, by omega, by omega, ?_, ?_⟩
    · rw [hs, wrap_succ (by omega)]; rfl
    · rw [hs, List.map_append, Int.toNat_natCast, Int.toNat_natCast, hcur.2.1]; rfl
  · have hce : ¬ l[i] = e := fun he => h (by rw [he])
    have hs : splitF e (l.take (i + 1)) [] = ((splitF e (l.take i) []).1, (splitF e (l.take i) []).2 ++ [l[i]]) := by rw [List.take_succ_eq_append_getElem hlt, splitF_snoc, if_neg hce]
    refine ⟨i + 1, by omega, by omega, ?_, ?_⟩
    · rw [hs, wrap_succ (by omega), show i + 1 - ((splitF e (l.take i) []).2 ++ [l[i]]).length = i - (splitF e (l.take i) []).2.length by simp]; rfl
    · rw [hs]; rfl
  · have hil : i = l.length := by omega
    subst hil
    rw [List.take_length] at hcur ⊢
    have : decide (((l.length - (splitF e l []).2.length : Nat) : Int) = (l.length : Int)) = decide ((splitF e l []).2 = []) := by
      rw [decide_eq_decide]
      constructor
      · intro h; exact List.eq_nil_of_length_eq_zero (by omega)
      · intro h; rw [h]; simp
    rw [this]; rfl

/-- a segment's text -/
def letter (k : Int) : UInt8 := if k = 1 then 110 else if k = 2 then 97 else if k = 3 then 103 else 98
def segText (s : Segment) : List UInt8 := if 1 ≤ s.kind ∧ s.kind ≤ 4 ∧ 0 ≤ s.num ∧ s.num ≤ 999999999 then letter s.kind :: number s.num else []
theorem segText_len (s : Segment) : (segText s).length ≤ 22 := by
  unfold segText
  split
  · have := number_len s.num; simp; omega
  · simp
theorem segText_c (s : Segment) : PureCall Try.prog F.ref18_Text [.agg s.enc] (.str (segText s)) := by
  have hno : (s.kind < 1 ∨ 4 < s.kind ∨ s.num < 0 ∨ 999999999 < s.num) → segText s = [] := fun h => by rw [segText, if_neg (by omega)]
  by_cases hk : s.kind = 1 ∨ s.kind = 2 ∨ s.kind = 3 ∨ s.kind = 4
  · obtain ⟨kind, n⟩ := s
    dsimp only at hk hno
    rcases hk with rfl | rfl | rfl | rfl
    all_goals
      refine contractS fits K.ref18_Text ?_
      repeat' (first
        | (exfalso; revert h; decide)
        | ((with_reducible refine step ?_); conv => whnf)
        | (with_reducible refine And.intro (fun h => ?_) (fun h => ?_))
        | (refine call_pure (number_c n (by simp at *; unfold i64; omega)) rfl rfl ?_; conv => whnf)
        | (refine Exists.intro _ (And.intro rfl (And.intro (by decide) ?_)); conv => whnf)
        | (refine And.intro (by have := number_len n; show 1 + (number n).length ≤ _; omega) ?_; conv => whnf)
        | fail)
      all_goals simp only [decide_eq_true_eq, decide_eq_false_iff_not] at *
      all_goals first
        | (rw [hno (by omega)]; done)
        | (rw [segText, if_pos (by simp; omega)]; rfl)
  · refine contractS fits K.ref18_Text ?_
    repeat' (first
        | (exfalso; revert h; decide)
        | ((with_reducible refine step ?_); conv => whnf)
        | (with_reducible refine And.intro (fun h => ?_) (fun h => ?_))
        | fail)
    all_goals simp only [decide_eq_true_eq, decide_eq_false_iff_not] at *
    all_goals first
        | (rw [hno (by omega)]; done)
        | (exfalso; omega)
/-- the segment with a text -/
def segParse (l : List UInt8) : Segment × Int :=
  if l.length ≤ 1 then (⟨0, 0⟩, 3)
  else if segText ⟨1, valueF (l.drop 1)⟩ = l then (⟨1, valueF (l.drop 1)⟩, 0)
  else if segText ⟨2, valueF (l.drop 1)⟩ = l then (⟨2, valueF (l.drop 1)⟩, 0)
  else if segText ⟨3, valueF (l.drop 1)⟩ = l then (⟨3, valueF (l.drop 1)⟩, 0)
  else if segText ⟨4, valueF (l.drop 1)⟩ = l then (⟨4, valueF (l.drop 1)⟩, 0)
  else (⟨0, 0⟩, 3)
theorem segParse_c (l : List UInt8) (hl : l.length < 1099511627776) : PureCall Try.prog F.ref18_Parse [.str l] (.tuple [.agg (segParse l).1.enc, ai (segParse l).2]) := by
  refine contractS fits K.ref18_Parse ?_
  have hv := value_c (l.drop 1) (by simp; omega)
  repeat' (first
      | (exfalso; revert h; decide)
      | ((with_reducible refine step ?_); conv => whnf)
      | (with_reducible refine And.intro (fun h => ?_) (fun h => ?_))
      | (refine loop_fuelD 6 ?_; conv => whnf)
      | (refine call_pure hv rfl rfl ?_; conv => whnf)
      | (refine call_pure (segText_c ⟨1, valueF (l.drop 1)⟩) rfl rfl ?_; conv => whnf)
      | (refine call_pure (segText_c ⟨2, valueF (l.drop 1)⟩) rfl rfl ?_; conv => whnf)
      | (refine call_pure (segText_c ⟨3, valueF (l.drop 1)⟩) rfl rfl ?_; conv => whnf)
      | (refine call_pure (segText_c ⟨4, valueF (l.drop 1)⟩) rfl rfl ?_; conv => whnf)
      | (refine And.intro ⟨by decide, by simp at *; omega⟩ ?_; conv => whnf)
      | fail)
  all_goals try simp only [decide_eq_true_eq, decide_eq_false_iff_not] at *
  · rw [segParse, if_neg (by omega), if_pos (by assumption)]; rfl
  · rw [segParse, if_neg (by omega), if_neg (by assumption), if_pos (by assumption)]; rfl
  · rw [segParse, if_neg (by omega), if_neg (by assumption), if_neg (by assumption), if_pos (by assumption)]; rfl
  · rw [segParse, if_neg (by omega), if_neg (by assumption), if_neg (by assumption), if_neg (by assumption), if_pos (by assumption)]; rfl
  · rw [segParse, if_neg (by omega), if_neg (by assumption), if_neg (by assumption), if_neg (by assumption), if_neg (by assumption)]; rfl
  all_goals (rw [segParse, if_pos (by omega)]; rfl)
end Go.Proofs.Ytmapiefbnjaikaa.Vm
/- Contracts: lists of segments and their texts; what a query may be. -/
set_option linter.all false
namespace Go.Proofs.Ytmapiefbnjaikaa.Vm
open Go
set_option maxRecDepth 100000

/-- words with spaces between them -/
def joinSp : List (List UInt8) → List UInt8
  | [] => []
  | x :: l => match l with
    | [] => x
    | _ => x ++ 32 :: joinSp l
theorem joinSp_snoc (x : List UInt8) : ∀ l : List (List UInt8), joinSp (l ++ [x]) = if l = [] then x else joinSp l ++ [32] ++ x := by
  intro l
  induction l with
  | nil => rfl
  | cons y l ih =>
    cases l with
    | nil => simp [joinSp]
    | cons z l =>
      rw [if_neg (by simp)] at ih ⊢
      show y ++ 32 :: joinSp (z :: l ++ [x]) = y ++ 32 :: joinSp (z :: l) ++ [32] ++ x
      rw [ih]; simp
theorem joinSp_len (n : Nat) : ∀ l : List (List UInt8), (∀ x ∈ l, x.length ≤ n) → (joinSp l).length ≤ (n + 1) * l.length := by
  intro l
  induction l with
  | nil => intro _; exact Nat.le_refl _
  | cons y l ih =>
    intro h
    have h1 := h y (by simp)
    have h2 := ih fun x hx => h x (List.mem_cons_of_mem _ hx)
    cases l with
    | nil => simp [joinSp]; omega
    | cons z l =>
      show (y ++ 32 :: joinSp (z :: l)).length ≤ _
      rw [List.length_append, List.length_cons, List.length_cons (a := y), Nat.mul_succ]
      omega
def textList (l : List Segment) : List UInt8 := if l.all fun s => decide (segText s ≠ []) then joinSp (l.map segText) else []
theorem joinSp_step {l : List Segment} {i : Nat} (hi : i < l.length) : joinSp ((l.take (i + 1)).map segText) = if i = 0 then segText l[i] else joinSp ((l.take i).map segText) ++ [32] ++ segText l[i] := by
  rw [List.take_succ_eq_append_getElem hi, List.map_append]
  show joinSp (_ ++ [segText l[i]]) = _
  rw [joinSp_snoc]
  by_cases h0 : i = 0
  · subst h0; rfl
  · rw [if_neg h0, if_neg]
    rw [List.map_eq_nil_iff, List.take_eq_nil_iff]
    rintro (h | h)
    · exact h0 h
    · rw [h] at hi; exact nomatch hi
theorem joinSp_take {l : List Segment} (i : Nat) : (joinSp ((l.take i).map segText)).length ≤ 23 * l.length := by
  refine Nat.le_trans (joinSp_len 22 _ ?_) ?_
  · simp only [List.mem_map]
    rintro x ⟨s, _, rfl⟩
    exact segText_len s
  · simp only [List.length_map, List.length_take]; omega

theorem textList_c (l : List Segment) (hl : l.length < 1099511627776) : PureCall Try.prog F.ref18_TextList [asl (l.map Segment.enc)] (.str (textList l)) := by
  refine contractS fits K.ref18_TextList ?_
  repeat' (first
      | ((with_reducible refine step ?_); conv => whnf)
      | fail)
  refine loop_invS (fun i => i ≤ l.length ∧ ∀ s ∈ l.take i, decide (segText s ≠ []) = true) [0, 3, 4] 0 (fun i => [(3, .str (joinSp ((l.take i).map segText))), (4, ai i)]) (fun _ => []) (fun i => l.length - i) 0 (by decide) (by decide) ?_
  conv => whnf
  refine ⟨rfl, rfl, by simp, fun i ⟨hi, hp⟩ => ?_⟩
  have hlen := joinSp_take (l := l) i
  repeat' (first
      | ((with_reducible refine step ?_); conv => whnf)
      | (with_reducible refine And.intro (fun h => ?_) (fun h => ?_))
      | (have hlt : i < l.length := (by first | assumption | simp_all); refine idx_nat hlt rfl ?_; conv => whnf)
      | (refine call_pure (segText_c _) rfl rfl ?_; conv => whnf)
      | (refine And.intro (by have h1 := segText_len l[i]; have h2 : [(32 : UInt8)].length = 1 := rfl; (try simp only [List.length_append]); omega) ?_; conv => whnf)
      | fail)
  all_goals try simp only [List.length_map, decide_eq_true_eq, decide_eq_false_iff_not] at *
  · rw [textList, if_neg]
    rw [List.all_eq_true]; intro hh
    have := hh l[i] (List.getElem_mem hlt)
    simp at this; exact this h
  · refine ⟨i + 1, ⟨by omega, fun s hs => ?_⟩, by omega, by rw [wrap_succ (by omega), joinSp_step hlt, if_neg (by omega)]; rfl, rfl⟩
    rw [List.take_succ_eq_append_getElem hlt, List.mem_append] at hs
    rcases hs with hs | hs
    · exact hp s hs
    · simp at hs; subst hs; assumption
  · have h0 : i = 0 := by omega
    subst h0
    refine ⟨0 + 1, ⟨by omega, fun s hs => ?_⟩, by omega, by rw [wrap_succ (by omega), joinSp_step hlt, if_pos rfl]; rfl, rfl⟩
    rw [List.take_succ_eq_append_getElem hlt, List.mem_append] at hs
    rcases hs with hs | hs
    · exact hp s hs
    · simp at hs; subst hs; assumption
  · obtain rfl : i = l.length := by omega
    rw [List.take_length] at hp ⊢
    rw [textList, if_pos]
    rw [List.all_eq_true]; intro s hs; simpa using hp s hs

/-- the list with a text -/
def parseL : List (List UInt8) → List Segment × Int
  | [] => ([], 0)
  | w :: l => if (segParse w).2 ≠ 0 then ([], (segParse w).2) else if (parseL l).2 ≠ 0 then ([], (parseL l).2) else ((segParse w).1 :: (parseL l).1, 0)
theorem parseL_ok : ∀ ws : List (List UInt8), (∀ w ∈ ws, (segParse w).2 = 0) → parseL ws = (ws.map fun w => (segParse w).1, 0) := by
  intro ws
  induction ws with
  | nil => intro _; rfl
  | cons w ws ih =>
    intro h
    rw [parseL, if_neg (by rw [h w (by simp)]; simp), ih fun x hx => h x (List.mem_cons_of_mem _ hx)]
    rfl
theorem parseL_no (w : List UInt8) (post : List (List UInt8)) (hw : (segParse w).2 ≠ 0) : ∀ ws : List (List UInt8), (∀ w ∈ ws, (segParse w).2 = 0) → parseL (ws ++ w :: post) = ([], (segParse w).2) := by
  intro ws
  induction ws with
  | nil => intro _; rw [List.nil_append, parseL, if_pos hw]
  | cons v ws ih =>
    intro h
    rw [List.cons_append, parseL, if_neg (by rw [h v (by simp)]; simp), ih fun x hx => h x (List.mem_cons_of_mem _ hx), if_pos hw]
def textParse (l : List UInt8) : List Segment × Int := if l = [] then ([], 0) else parseL (split9 (l ++ [32]) 32).1
theorem splitF_in (e : UInt8) : ∀ (l cur : List UInt8) (w : List UInt8), w ∈ (splitF e l cur).1 → w.length ≤ cur.length + l.length := by
  intro l
  induction l with
  | nil => intro cur w h; exact nomatch h
  | cons c l ih =>
    intro cur w h
    unfold splitF at h
    split at h
    · rcases List.mem_cons.1 h with rfl | h
      · simp
      · have := ih _ _ h; simp at this ⊢; omega
    · have := ih _ _ h; simp at this ⊢; omega
theorem textParse_c (l : List UInt8) (hl : l.length < 1073741824) : PureCall Try.prog F.ref18_ParseList [.str l] (.tuple [asl ((textParse l).1.map Segment.enc), ai (textParse l).2]) := by
  refine contractS fits K.ref18_ParseList ?_
  have hw : ∀ w ∈ (split9 (l ++ [32]) 32).1, w.length < 1099511627776 := fun w hw => by
    have := splitF_in _ _ _ _ hw
    simp at this; omega
  have hn := (splitF_cur 32 (l ++ [32])).2.2
  rw [List.length_append, List.length_singleton] at hn
  have hdef : l ≠ [] → textParse l = parseL (split9 (l ++ [32]) 32).1 := fun h => by rw [textParse, if_neg h]
  have hnn : (split9 (l ++ [32]) 32).1.length ≤ l.length + 1 := hn
  have hs9 := split9_c (l ++ [32]) 32 (by simp; omega)
  generalize split9 (l ++ [32]) 32 = ws at hw hnn hdef hs9
  obtain ⟨ws, wb⟩ := ws
  dsimp only at hw hnn hdef hs9
  repeat' (first
      | ((with_reducible refine step ?_); conv => whnf)
      | (with_reducible refine And.intro (fun h => ?_) (fun h => ?_))
      | (refine call_pure hs9 rfl rfl ?_; conv => whnf)
      | (refine And.intro (by simp [big]; omega) ?_; conv => whnf)
      | fail)
  · rw [textParse, if_pos (by simpa using h)]; rfl
  rw [hdef (by simpa using h)]
  refine loop_promoteD (k := 6) (esz := 2) rfl (by decide) ?_
  refine loop_invS (fun i => i ≤ ws.length ∧ ∀ w ∈ ws.take i, (segParse w).2 = 0) [4, 6, 7] 1 (fun i => [(7, ai i)]) (fun i => [(0, .arr 0 2 none ((ws.take i).map fun w => (segParse w).1.enc) false)]) (fun i => ws.length - i) 0 (by decide) (by decide) ?_
  conv => whnf
  refine ⟨rfl, rfl, by simp, fun i ⟨hi, hp⟩ => ?_⟩
  repeat' (first
      | ((with_reducible refine step ?_); conv => whnf)
      | (with_reducible refine And.intro (fun h => ?_) (fun h => ?_))
      | (have hlt : i < ws.length := (by first | assumption | simp_all); refine idx_nat hlt rfl ?_; conv => whnf)
      | (refine call_pure (segParse_c ws[i] (hw _ (List.getElem_mem hlt))) rfl rfl ?_; conv => whnf)
      | (refine And.intro ?_ ?_; (focus (simp [elemsOk, AV.oneC, big]; (try omega); done)); conv => whnf)
      | fail)
  all_goals try simp only [List.length_map, decide_eq_true_eq, decide_eq_false_iff_not, Bool.not_eq_true', Bool.not_eq_false'] at *
  · have hd : ws = ws.take i ++ ws[i] :: ws.drop (i + 1) := by rw [List.getElem_cons_drop_succ_eq_drop, List.take_append_drop]
    have he : parseL ws = ([], (segParse ws[i]).2) := by
      rw [congrArg parseL hd]; exact parseL_no _ _ h _ hp
    rw [he]; rfl
  · refine ⟨i + 1, ⟨by omega, fun s hs => ?_⟩, by omega, by rw [wrap_succ (by omega)]; rfl, by rw [List.take_succ_eq_append_getElem hlt, List.map_append]; rfl⟩
    rw [List.take_succ_eq_append_getElem hlt, List.mem_append] at hs
    rcases hs with hs | hs
    · exact hp s hs
    · simp at hs; subst hs; exact h
  · obtain rfl : i = ws.length := by omega
    rw [List.take_length] at hp ⊢
    rw [parseL_ok _ hp, List.map_map]; rfl

theorem list21_c (s : List UInt8) (hl : s.length < 1073741824) : PureCall Try.prog F.law21_list [.str s] (asl ((textParse s).1.map Segment.enc)) := by
  refine contractS fits K.law21_list ?_
  repeat' (first
      | ((with_reducible refine step ?_); conv => whnf)
      | (refine call_pure (textParse_c s hl) rfl rfl ?_; conv => whnf)
      | fail)
  all_goals rfl
def lineT : Topology := ⟨4, [], [⟨0, 1, 1, 1, 0, 1, 0⟩, ⟨1, 2, 1, 1, 0, 1, 0⟩, ⟨2, 3, 1, 1, 0, 1, 0⟩]⟩
theorem line21_c : PureCall Try.prog F.law21_line [] (.agg lineT.enc) := by
  refine contractS fits K.law21_line ?_
  repeat' (first
      | (exfalso; revert h; decide)
      | ((with_reducible refine step ?_); conv => whnf)
      | (with_reducible refine And.intro (fun h => ?_) (fun h => ?_))
      | (refine loop_promoteBD (id := 1) (k := 2) (esz := 7) rfl rfl (by decide) ?_; refine loop_fuelD 5 ?_; conv => whnf)
      | (refine And.intro ?_ ?_; (focus (simp [elemsOk, AV.oneC, big]; (try omega); done)); conv => whnf)
      | fail)
  all_goals rfl
end Go.Proofs.Ytmapiefbnjaikaa.Vm
/- Contracts: what a query may be. -/
set_option linter.all false
namespace Go.Proofs.Ytmapiefbnjaikaa.Vm
open Go
set_option maxRecDepth 100000

def large (q : Query) : Bool := decide (12 < q.t.nodes) || decide (20 < q.t.links.length) || decide (8 < q.policies.length) || decide (40 < q.list.length) || q.policies.any fun p => decide (40 < p.list.length)
theorem any_false {α : Type} {p : α → Bool} {l : List α} {i : Nat} (hi : l.length ≤ i) (h : ∀ x ∈ l.take i, p x = false) : l.any p = false := by
  rw [List.take_of_length_le hi] at h; exact List.any_eq_false.2 fun x hx => by rw [h x hx]; exact nofun
theorem large_c (q : Query) : PureCall Try.prog F.law21_large [.agg q.enc] (.bool (large q)) := by
  refine contractS fits K.law21_large ?_
  repeat' (first
      | (exfalso; revert h; decide)
      | ((with_reducible refine step ?_); conv => whnf)
      | (with_reducible refine And.intro (fun h => ?_) (fun h => ?_))
      | fail)
  all_goals try simp only [List.length_map, decide_eq_true_eq, decide_eq_false_iff_not, Bool.not_eq_true', Bool.not_eq_false'] at *
  iterate 4 (focus (simp [large]; omega))
  refine loop_invS (fun i => i ≤ q.policies.length ∧ ∀ p ∈ q.policies.take i, decide (40 < p.list.length) = false) [1, 3] 1 (fun i => [(3, ai i)]) (fun _ => []) (fun i => q.policies.length - i) 0 (by decide) (by decide) ?_
  conv => whnf
  refine ⟨rfl, rfl, by simp, fun i ⟨hi, hp⟩ => ?_⟩
  repeat' (first
      | ((with_reducible refine step ?_); conv => whnf)
      | (with_reducible refine And.intro (fun h => ?_) (fun h => ?_))
      | (have hlt : i < q.policies.length := (by first | assumption | simp_all); refine idx_nat hlt rfl ?_; conv => whnf)
      | fail)
  all_goals try simp only [List.length_map, decide_eq_true_eq, decide_eq_false_iff_not, Bool.not_eq_true', Bool.not_eq_false'] at *
  · rw [large, (List.any_eq_true (p := fun p : Policy => decide (40 < p.list.length))).2 ⟨q.policies[i], List.getElem_mem hlt, by simp; omega⟩, Bool.or_true]
  · refine ⟨i + 1, ⟨by omega, fun s hs => ?_⟩, by omega, by rw [wrap_succ (by omega)]; rfl, rfl⟩
    rw [List.take_succ_eq_append_getElem hlt, List.mem_append] at hs
    rcases hs with hs | hs
    · exact hp s hs
    · simp at hs; subst hs; omega
  · rw [large, any_false (i := i) (by omega) (fun x hx => by simpa using hp x hx)]
    simp; omega

def heavyP (p : Policy) : Bool := decide (3 < p.list.countP fun s => decide (s.kind = 4))
def heavy (ps : List Policy) : Bool := ps.any heavyP || decide (6 < ps.length)
theorem heavy_c (q : Query) (h8 : q.policies.length ≤ 8) (h40 : ∀ p ∈ q.policies, p.list.length ≤ 40) : PureCall Try.prog F.law21_heavy [.agg q.enc] (.bool (heavy q.policies)) := by
  refine contractS fits K.law21_heavy ?_
  repeat' (first
      | (exfalso; revert h; decide)
      | ((with_reducible refine step ?_); conv => whnf)
      | (with_reducible refine And.intro (fun h => ?_) (fun h => ?_))
      | fail)
  refine loop_invS (fun i => i ≤ q.policies.length ∧ ∀ p ∈ q.policies.take i, heavyP p = false) [1, 3] 1 (fun i => [(3, ai i)]) (fun _ => []) (fun i => q.policies.length - i) 0 (by decide) (by decide) ?_
  conv => whnf
  refine ⟨rfl, rfl, by simp, fun i ⟨hi, hp⟩ => ?_⟩
  repeat' (first
      | ((with_reducible refine step ?_); conv => whnf)
      | (with_reducible refine And.intro (fun h => ?_) (fun h => ?_))
      | (have hlt : i < q.policies.length := (by first | assumption | simp_all); refine idx_nat hlt rfl ?_; conv => whnf)
      | fail)
  all_goals try simp only [List.length_map, decide_eq_true_eq, decide_eq_false_iff_not, Bool.not_eq_true', Bool.not_eq_false'] at *
  · have hlt : i < q.policies.length := by omega
    have h40 := h40 _ (List.getElem_mem hlt)
    refine loop_invS (fun k => k ≤ q.policies[i].list.length) [1, 3, 4, 5] 1 (fun k => [(4, ai ((q.policies[i].list.take k).countP fun s => decide (s.kind = 4) : Nat)), (5, ai k)]) (fun _ => []) (fun k => q.policies[i].list.length - k) 0 (by decide) (by decide) ?_
    conv => whnf
    refine ⟨rfl, rfl, by omega, fun k hk => ?_⟩
    have hcnt : (q.policies[i].list.take k).countP (fun s => decide (s.kind = 4)) ≤ 40 := Nat.le_trans List.countP_le_length (by simp; omega)
    repeat' (first
      | ((with_reducible refine step ?_); conv => whnf)
      | (with_reducible refine And.intro (fun h => ?_) (fun h => ?_))
      | (refine idx_nat hlt rfl ?_; conv => whnf)
      | (have hkl : k < q.policies[i].list.length := (by first | assumption | simp_all); refine idx_nat hkl rfl ?_; conv => whnf)
      | fail)
    all_goals try simp only [List.length_map, decide_eq_true_eq, decide_eq_false_iff_not, Bool.not_eq_true', Bool.not_eq_false'] at *
    · exact ⟨k + 1, by omega, by omega, by rw [wrap_succ (by omega), wrap_succ (by omega), List.take_succ_eq_append_getElem hkl, List.countP_append, List.countP_cons_of_pos (by simpa using h)]; rfl, rfl⟩
    · exact ⟨k + 1, by omega, by omega, by rw [wrap_succ (by omega), List.take_succ_eq_append_getElem hkl, List.countP_append, List.countP_cons_of_neg (by simpa using h)]; rfl, rfl⟩
    · have hk' : (q.policies[i].list.take k) = q.policies[i].list := List.take_of_length_le (by omega)
      rw [hk'] at h
      rw [heavy, (List.any_eq_true (p := heavyP)).2 ⟨q.policies[i], List.getElem_mem hlt, by simp [heavyP]; omega⟩, Bool.true_or]
    · have hk' : (q.policies[i].list.take k) = q.policies[i].list := List.take_of_length_le (by omega)
      rw [hk'] at h
      refine ⟨i + 1, ⟨by omega, fun s hs => ?_⟩, by omega, by rw [wrap_succ (by omega)]; rfl, rfl⟩
      rw [List.take_succ_eq_append_getElem hlt, List.mem_append] at hs
      rcases hs with hs | hs
      · exact hp s hs
      · simp at hs; subst hs; simp [heavyP]; omega
  · rw [heavy, any_false (i := i) (by omega) (fun x hx => by simpa using hp x hx)]
    simp; omega
end Go.Proofs.Ytmapiefbnjaikaa.Vm
/- Contracts: the examples that every statement of the set 21 checks first. -/
set_option linter.all false
namespace Go.Proofs.Ytmapiefbnjaikaa.Vm
open Go
set_option maxRecDepth 100000

def EL : Env := { EE with lits := [12] }
theorem fitsL : EL.Fits Try.prog := fun t => fits t
theorem stepL {N : NN} {c : Cfg} {R : Exit → List AV → List VObj → Prop} (h : vrunC EL 500 c (OutHoldsD Try.prog N R)) : RunD Try.prog N c R := run_stepD fitsL (show EE.EqOk Try.prog from eqok) 500 h

def tA : List UInt8 := [97, 50, 32, 98, 56]
def tB : List UInt8 := [110, 51]
def tC : List UInt8 := [110, 49, 32, 98, 55]
def tD : List UInt8 := [110, 49, 32, 98, 57]
def psA (t : List UInt8) : List Policy := [⟨1, 7, (textParse tA).1⟩, ⟨2, 8, (textParse t).1⟩]
theorem exA : (textParse tA).1 = [⟨2, 2⟩, ⟨4, 8⟩] := by kernel_rfl
theorem exB : (textParse tB).1 = [⟨1, 3⟩] := by kernel_rfl
theorem exC : (textParse tC).1 = [⟨1, 1⟩, ⟨4, 7⟩] := by kernel_rfl
theorem exD : (textParse tD).1 = [⟨1, 1⟩, ⟨4, 9⟩] := by kernel_rfl
theorem ex1 : expandP lineT (psA tB) 0 (textParse tC).1 = ([⟨1, 1⟩, ⟨2, 2⟩, ⟨1, 3⟩], 0) := by
  rw [psA, exA, exB, exC]; decide +kernel
theorem ex2 : (expandP lineT (psA tC) 0 (textParse tC).1).2 = 16 := by
  rw [psA, exA, exC]; decide +kernel
theorem ex3 : (expandP lineT (psA tD) 0 (textParse tC).1).2 = 8 := by
  rw [psA, exA, exD, exC]; decide +kernel
theorem ex4 : textList [⟨1, 1⟩, ⟨2, 2⟩, ⟨1, 3⟩] = [110, 49, 32, 97, 50, 32, 110, 51] := by kernel_rfl
theorem psA_len (t : List UInt8) (ht : (textParse t).1.length ≤ 2) : ∀ p ∈ psA t, p.list.length < 4611686018427387904 := by
  intro p hp
  rcases List.mem_cons.1 hp with rfl | hp
  · rw [exA]; decide
  · rcases List.mem_cons.1 hp with rfl | hp
    · show (textParse t).1.length < _; omega
    · exact nomatch hp

theorem awake_c : PureCall Try.prog F.law21_awake [] (.bool true) := by
  refine contractS fitsL K.law21_awake ?_
  have hB := expandP_n lineT (psA tB) 0 (textParse tC).1 (psA_len _ (by rw [exB]; decide)) (by decide) (by rw [exC]; decide)
  have hC := expandP_n lineT (psA tC) 0 (textParse tC).1 (psA_len _ (by rw [exC]; decide)) (by decide) (by rw [exC]; decide)
  have hD := expandP_n lineT (psA tD) 0 (textParse tC).1 (psA_len _ (by rw [exD]; decide)) (by decide) (by rw [exC]; decide)
  rw [ex1] at hB
  rw [ex2] at hC
  rw [ex3] at hD
  dsimp only at hB
  have hT := textList_c [⟨1, 1⟩, ⟨2, 2⟩, ⟨1, 3⟩] (by decide)
  rw [ex4] at hT
  repeat' (first
      | (exfalso; revert h; decide)
      | ((with_reducible refine stepL ?_); conv => whnf)
      | (refine call_pure (list21_c tA (by decide)) rfl rfl ?_; conv => whnf)
      | (refine call_pure (list21_c tB (by decide)) rfl rfl ?_; conv => whnf)
      | (refine call_pure (list21_c tC (by decide)) rfl rfl ?_; conv => whnf)
      | (refine call_pure (list21_c tD (by decide)) rfl rfl ?_; conv => whnf)
      | (refine call_pure line21_c rfl rfl ?_; conv => whnf)
      | (refine call_new hB rfl rfl ?_; conv => whnf)
      | (refine call_new hC rfl rfl ?_; conv => whnf)
      | (refine call_new hD rfl rfl ?_; conv => whnf)
      | (refine call_pure hT rfl rfl ?_; conv => whnf)
      | (refine And.intro (And.intro rfl (And.intro (by decide) (by decide))) ?_; conv => whnf)
      | (refine And.intro rfl (And.intro (by decide) (Exists.intro _ (And.intro rfl (And.intro (by decide) ?_)))); conv => whnf)
      | (refine Exists.intro _ (And.intro rfl (And.intro (by decide) ?_)); conv => whnf)
      | (with_reducible refine And.intro (fun h => ?_) (fun h => ?_))
      | fail)
  all_goals rfl
end Go.Proofs.Ytmapiefbnjaikaa.Vm
/- Contracts: the statement PolicyValid. -/
set_option linter.all false
namespace Go.Proofs.Ytmapiefbnjaikaa.Vm
open Go
set_option maxRecDepth 100000

theorem large_no {q : Query} (h : large q = false) : q.t.nodes ≤ 12 ∧ q.t.links.length ≤ 20 ∧ q.policies.length ≤ 8 ∧ q.list.length ≤ 40 ∧ ∀ p ∈ q.policies, p.list.length ≤ 40 := by
  simp only [large, Bool.or_eq_false_iff, decide_eq_false_iff_not, List.any_eq_false, decide_eq_true_eq] at h
  obtain ⟨⟨⟨⟨h1, h2⟩, h3⟩, h4⟩, h5⟩ := h
  exact ⟨by omega, by omega, by omega, by omega, fun p hp => by have := h5 p hp; omega⟩
theorem polFind_mem {ps : List Policy} {node binding : Int} {p : Policy} (h : polFind ps node binding = some p) : p ∈ ps := by
  unfold polFind at h
  cases hi : polIdx ps node binding with
  | none => rw [hi] at h; exact nomatch h
  | some i => rw [hi] at h; exact List.mem_of_getElem? h
theorem polOr_len {ps : List Policy} {node binding : Int} (h : ∀ p ∈ ps, p.list.length ≤ 40) : (polOr (polFind ps node binding)).list.length ≤ 40 := by
  cases hf : polFind ps node binding with
  | none => exact Nat.zero_le _
  | some p => exact h p (polFind_mem hf)

theorem policyValid_c (q : Query) (b : Int) : PureCall Try.prog F.law21_PolicyValid [.agg q.enc, ai b] (.bool true) := by
  refine contractS fits K.law21_PolicyValid ?_
  repeat' (first
      | (exfalso; revert h; decide)
      | ((with_reducible refine step ?_); conv => whnf)
      | (refine call_pure awake_c rfl rfl ?_; conv => whnf)
      | (refine call_pure (large_c q) rfl rfl ?_; conv => whnf)
      | (have hq := large_no h; refine call_pure (find_c q.policies q.node b (by omega)) rfl rfl ?_; conv => whnf)
      | (refine call_pure (find21_c q.policies q.node b (by omega)) rfl rfl ?_; conv => whnf)
      | (refine call_pure (polsValid_c q.t q.policies (by omega) (fun p hp => Nat.lt_of_le_of_lt (hq.2.2.2.2 p hp) (by decide))) rfl rfl ?_; conv => whnf)
      | (refine call_pure (polsValid21_c q.t q.policies (by omega) (fun p hp => Nat.lt_of_le_of_lt (hq.2.2.2.2 p hp) (by decide))) rfl rfl ?_; conv => whnf)
      | (refine call_pure (samePolicy_c _ (polOr (polFind q.policies q.node b)) (Nat.lt_of_le_of_lt (polOr_len hq.2.2.2.2) (by decide))) rfl rfl ?_; conv => whnf)
      | (with_reducible refine And.intro (fun h => ?_) (fun h => ?_))
      | fail)
  all_goals first
    | exact congrArg AV.bool (decide_eq_true rfl)
    | (exfalso; simp at h; done)
end Go.Proofs.Ytmapiefbnjaikaa.Vm
/- Data: what the readings of a query's arguments say. -/
set_option linter.all false
namespace Go.Proofs.Ytmapiefbnjaikaa.Vm
open Go Go.ChangeShapes Go.WideShapes Go.ChangeAt Go.RowKit Go.Proofs.Ytmapiefbnjaikaa
set_option maxRecDepth 100000
theorem sum_bulk {H : Type} : ∀ (l : List (DataW H)), (l.map (Rows.uptoBulk (H := H))).sum = Rows.uptoBulkAll l := by
  intro l; induction l with
  | nil => simp [Rows.uptoBulkAll]
  | cons x l ih => simp [Rows.uptoBulkAll, ih]
theorem uok : UOk (fun H => Rows.uptoBulk (H := H)) where
  str H b := by simp [Rows.uptoBulk]
  lit H l := by cases l <;> simp [Rows.uptoBulk]
  nil H := by simp [Rows.uptoBulk]
  slice H es sp := by simp [Rows.uptoBulk, sum_bulk]
  agg H ps := by simp [Rows.uptoBulk, sum_bulk]
theorem own : ownKnob Try.prog.godebug = none := by kernel_rfl
abbrev UB : (H : Type) → DataW H → Nat := fun H => Rows.uptoBulk (H := H)
def okAny (α : Type) : α → Prop := fun _ => True
def bulk0 (α : Type) : α → Nat := fun _ => 0

/-- a struct's fields, as far as they matter -/
def fldsOf (P : Program) (t : TypeId) : Option (List (TypeId × Nat)) := match P.underlying t with
  | some (.struct fs) => some (fs.toList.map fun f => (f.type, f.offset))
  | _ => none
def fld (x : TypeId × Nat) : Field := ⟨ "", x.1, x.2, false, "", "", 0⟩
theorem OpensF.congr {P : Program} {U : (H : Type) → DataW H → Nat} {fs fs' : List Field} {o : Nat} {β : Type} {n : Nat} {enc : β → List AV} {ok : β → Prop} {bulk : β → Nat} (h : OpensF P U fs' o β n enc ok bulk) (he : fs.map (fun f => (f.type, f.offset)) = fs'.map fun f => (f.type, f.offset)) : OpensF P U fs o β n enc ok bulk where
  len := h.len
  pure := h.pure
  op eh w base held m cs xs h1 h2 h3 := h.op eh w base held m cs xs h1 (by rw [h2, ← List.length_map (f := fun f : Field => (f.type, f.offset)), he, List.length_map]) fun i f hf => by
    have := congrArg (fun l : List (TypeId × Nat) => l[i]?) he
    simp only [List.getElem?_map, hf, Option.map_some, Option.map_eq_some_iff, Prod.mk.injEq] at this
    obtain ⟨f', q1, q2, q3⟩ := this
    have := h3 i f' q1
    rw [q2, q3] at this
    exact this
theorem opens_flds {P : Program} {U : (H : Type) → DataW H → Nat} (hU : UOk U) {t : TypeId} {l : List (TypeId × Nat)} {β : Type} {n : Nat} {enc : β → List AV} {ok : β → Prop} {bulk : β → Nat} (ht : fldsOf P t = some l) (hc : P.cellsOf t = n) (h0 : 0 < n)
    (h : OpensF P U (l.map fld) 0 β n enc ok bulk) : Opens P U t β n enc ok (fun x => bulk x + 1) := by
  unfold fldsOf at ht
  split at ht
  · rename_i fs hfs
    refine opens_struct hU hfs hc h0 (h.congr ?_)
    cases ht
    rw [List.map_map]
    exact (List.map_id _).symm
  · exact nomatch ht
theorem struct_flds {P : Program} {t : TypeId} {l : List (TypeId × Nat)} (ht : fldsOf P t = some l) : ∃ fs, P.underlying t = some (.struct fs) := by
  unfold fldsOf at ht
  split at ht
  · rename_i fs hfs; exact ⟨fs, hfs⟩
  · exact nomatch ht

theorem o_int : Opens Try.prog UB 3 Int 1 (fun n => [.int .i64 n]) (okAny _) (bulk0 _) := (opens_int uok (k := .i64) (by kernel_rfl) (by kernel_rfl)).map id (fun _ => rfl) (fun y a h => by simp at h; subst h; rfl) (fun _ => rfl) (fun _ _ => trivial) (fun _ => Nat.zero_le _)
theorem o_bool : Opens Try.prog UB 4 Bool 1 (fun b => [.bool b]) (fun _ => True) (fun _ => 1) := opens_bool uok (by kernel_rfl) (by kernel_rfl)
theorem o_cost : Opens Try.prog UB 73 (Int × Int) 2 (fun x => [.int .i64 x.1] ++ [.int .i64 x.2]) (okAny _) (bulk0 _) := (opens_two uok (e := 3) (by kernel_rfl) (by kernel_rfl) o_int).map id (fun _ => rfl) (fun y a h => by simp at h; rcases h with rfl | rfl <;> rfl) (fun _ => rfl) (fun _ _ => trivial) (fun _ => Nat.zero_le _)
theorem o_link : Opens Try.prog UB 82 Link 7 Link.enc (okAny _) (bulk0 _) :=
  (opens_flds uok (l := [(3, 0), (3, 1), (73, 2), (3, 4), (3, 5), (3, 6)]) (by kernel_rfl) (by kernel_rfl) (by decide)
    (opens_cons (f := fld (3, 0)) o_int (opens_cons (f := fld (3, 1)) o_int (opens_cons (f := fld (73, 2)) o_cost (opens_cons (f := fld (3, 4)) o_int (opens_cons (f := fld (3, 5)) o_int (opens_cons (f := fld (3, 6)) o_int opens_nil))))))).map
    (fun x => ⟨x.1, x.2.1, x.2.2.1.1, x.2.2.1.2, x.2.2.2.1, x.2.2.2.2.1, x.2.2.2.2.2.1⟩) (fun _ => rfl) (fun y a h => by
      simp only [Link.enc, List.mem_cons, List.mem_nil_iff, or_false] at h; rcases h with rfl | rfl | rfl | rfl | rfl | rfl | rfl <;> rfl) (fun _ => rfl) (fun _ _ => trivial) (fun _ => Nat.zero_le _)
theorem o_list {t e : TypeId} {α : Type} {n : Nat} {enc : α → List AV} (ht : Try.prog.underlying t = some (.slice e)) (hc : Try.prog.cellsOf t = 1) (h : Opens Try.prog UB e α n enc (okAny _) (bulk0 _)) :
    Opens Try.prog UB t (List α) 1 (fun xs => [asl (xs.map enc)]) (okAny _) (bulk0 _) :=
  (opens_slice uok ht hc h).map id (fun _ => rfl) (fun y a h => by simp at h; subst h; rfl) (fun _ => rfl) (fun _ _ => trivial) (fun _ => Nat.zero_le _)
theorem o_bools : Opens Try.prog UB 22 (List Bool) 1 (fun xs => [asl (xs.map eBool)]) (okAny _) (bulk0 _) := o_list (by kernel_rfl) (by kernel_rfl) (o_bool.map id (enc' := eBool) (fun _ => rfl) (fun y a h => by simp [eBool] at h; subst h; rfl) (fun _ => rfl) (fun _ _ => trivial) (fun _ => Nat.zero_le _))
theorem o_links : Opens Try.prog UB 23 (List Link) 1 (fun xs => [asl (xs.map Link.enc)]) (okAny _) (bulk0 _) := o_list (by kernel_rfl) (by kernel_rfl) o_link
theorem o_topology : Opens Try.prog UB 25 Topology 3 Topology.enc (okAny _) (bulk0 _) :=
  (opens_flds uok (l := [(3, 0), (22, 1), (23, 2)]) (by kernel_rfl) (by kernel_rfl) (by decide)
    (opens_cons (f := fld (3, 0)) o_int (opens_cons (f := fld (22, 1)) o_bools (opens_cons (f := fld (23, 2)) o_links opens_nil)))).map
    (fun x => ⟨x.1, x.2.1, x.2.2.1⟩) (fun _ => rfl) (fun y a h => by
      simp only [Topology.enc, List.mem_cons, List.mem_nil_iff, or_false] at h; rcases h with rfl | rfl | rfl <;> rfl) (fun _ => rfl) (fun _ _ => trivial) (fun _ => Nat.zero_le _)
theorem o_segment : Opens Try.prog UB 37 Segment 2 Segment.enc (okAny _) (bulk0 _) :=
  (opens_flds uok (l := [(3, 0), (3, 1)]) (by kernel_rfl) (by kernel_rfl) (by decide)
    (opens_cons (f := fld (3, 0)) o_int (opens_cons (f := fld (3, 1)) o_int opens_nil))).map
    (fun x => ⟨x.1, x.2.1⟩) (fun _ => rfl) (fun y a h => by
      simp only [Segment.enc, List.mem_cons, List.mem_nil_iff, or_false] at h; rcases h with rfl | rfl <;> rfl) (fun _ => rfl) (fun _ _ => trivial) (fun _ => Nat.zero_le _)
theorem o_segments : Opens Try.prog UB 27 (List Segment) 1 (fun xs => [asl (xs.map Segment.enc)]) (okAny _) (bulk0 _) := o_list (by kernel_rfl) (by kernel_rfl) o_segment
theorem o_policy : Opens Try.prog UB 41 Policy 3 Policy.enc (okAny _) (bulk0 _) :=
  (opens_flds uok (l := [(3, 0), (3, 1), (27, 2)]) (by kernel_rfl) (by kernel_rfl) (by decide)
    (opens_cons (f := fld (3, 0)) o_int (opens_cons (f := fld (3, 1)) o_int (opens_cons (f := fld (27, 2)) o_segments opens_nil)))).map
    (fun x => ⟨x.1, x.2.1, x.2.2.1⟩) (fun _ => rfl) (fun y a h => by
      simp only [Policy.enc, List.mem_cons, List.mem_nil_iff, or_false] at h; rcases h with rfl | rfl | rfl <;> rfl) (fun _ => rfl) (fun _ _ => trivial) (fun _ => Nat.zero_le _)
theorem o_policies : Opens Try.prog UB 26 (List Policy) 1 (fun xs => [asl (xs.map Policy.enc)]) (okAny _) (bulk0 _) := o_list (by kernel_rfl) (by kernel_rfl) o_policy
theorem o_query : Opens Try.prog UB 29 Query 6 Query.enc (okAny _) (bulk0 _) :=
  (opens_flds uok (l := [(25, 0), (26, 3), (3, 4), (27, 5)]) (by kernel_rfl) (by kernel_rfl) (by decide)
    (opens_cons (f := fld (25, 0)) o_topology (opens_cons (f := fld (26, 3)) o_policies (opens_cons (f := fld (3, 4)) o_int (opens_cons (f := fld (27, 5)) o_segments opens_nil))))).map
    (fun x => ⟨x.1, x.2.1, x.2.2.1, x.2.2.2.1⟩) (fun _ => rfl) (fun y a h => by
      simp only [Query.enc, Topology.enc, List.cons_append, List.nil_append, List.mem_cons, List.mem_nil_iff, or_false] at h; rcases h with rfl | rfl | rfl | rfl | rfl | rfl <;> rfl) (fun _ => rfl) (fun _ _ => trivial) (fun _ => Nat.zero_le _)
end Go.Proofs.Ytmapiefbnjaikaa.Vm
/- From contracts to rows. -/
set_option linter.all false
namespace Go.Proofs.Ytmapiefbnjaikaa.Vm
open Go Go.ChangeShapes Go.WideShapes Go.ChangeAt Go.RowKit Go.Proofs.Ytmapiefbnjaikaa
set_option maxRecDepth 100000
theorem laid : laidOutB Try.prog = true := by kernel_rfl
/-- a row's contract: one struct -/
theorem row1 {fn : Func} {fid : FuncId} {s : ChangeSpec} {α : Type} {n : Nat} {enc : α → List AV} {t : TypeId} {l : List (TypeId × Nat)} (hO : Opens Try.prog UB t α n enc (okAny _) (bulk0 _)) (hl : fldsOf Try.prog t = some l)
    (hp : ∀ x, PureCall Try.prog fid [.agg (enc x)] (.bool true)) (hpar : fn.params = #[t]) (hrd : Try.prog.readableRec t = true ∧ t < Try.prog.types.size) (hvars : s.vars = []) (hspec : ∀ (H : Type) (d : DataW H), s.fn H [d] = { results := [.lit (.bool true)], args := [d] }) (hrt : fn.resultTypes = #[4])
    (H : Type) (eh : TypeId × Value → H) (W : World) (base : Nat) (args : Array Value) (ds gs : List (DataW H)) (before : List MemPlace)
    (hval : ∀ (j : Nat) t v, fn.params[j]? = some t → args[j]? = some v → Value.okWide Try.prog W .any base t v)
    (hW : DataW.Whole eh Try.prog fn.params.toList s.vars false W args.toList ds gs before) :
    Calls Try.prog fid args W fun e W' => ∃ v, e = .returned v ∧ s.post eh Try.prog fn false true false false W args v W' := by
  have hW' := hW
  obtain ⟨p, q, hA, hV, hps, hfz, hnd⟩ := hW
  rw [hpar] at hA hval
  rw [hvars] at hV
  obtain ⟨v0, vs0, d0, ds0, p0, q0, hargs, rfl, rfl, h0, r0⟩ := trodAll_cons hA
  obtain ⟨rfl, rfl, rfl⟩ := trodAll_nil r0
  obtain rfl : args = #[v0] := by cases args; simp_all
  obtain ⟨rfl, rfl⟩ := trodVars_none hV
  obtain ⟨fs, hfs⟩ := struct_flds hl
  obtain ⟨x, h1, h2, h3⟩ := arg_struct hO hfs (hval 0 t v0 rfl rfl) h0
  refine (law_calls (hp x) rfl (fun i a v ha hv => ?_)).mono fun e W' ⟨he, g, g', hE⟩ => ?_
  · cases i with
    | zero => cases ha; cases hv; exact h1
    | succ i => simp at ha
  · subst he
    have hs := hspec H d0
    exact ⟨_, rfl, law_post (tb := 4) laid (by rw [hpar]; intro t' ht'; simp at ht'; subst ht'; exact hrd) hvars (by rw [List.append_nil, hs]) (by rw [List.append_nil, hs]) (by rw [List.append_nil, hs]) hrt (by kernel_rfl) hW' hE⟩
/-- .. a struct and a number -/
theorem row2 {fn : Func} {fid : FuncId} {s : ChangeSpec} {α : Type} {n : Nat} {enc : α → List AV} {t : TypeId} {l : List (TypeId × Nat)} (hO : Opens Try.prog UB t α n enc (okAny _) (bulk0 _)) (hl : fldsOf Try.prog t = some l)
    (hp : ∀ x b, PureCall Try.prog fid [.agg (enc x), ai b] (.bool true)) (hpar : fn.params = #[t, 3]) (hrd : Try.prog.readableRec t = true ∧ t < Try.prog.types.size) (hvars : s.vars = []) (hspec : ∀ (H : Type) (d d' : DataW H), s.fn H [d, d'] = { results := [.lit (.bool true)], args := [d, d'] }) (hrt : fn.resultTypes = #[4])
    (H : Type) (eh : TypeId × Value → H) (W : World) (base : Nat) (args : Array Value) (ds gs : List (DataW H)) (before : List MemPlace)
    (hval : ∀ (j : Nat) t v, fn.params[j]? = some t → args[j]? = some v → Value.okWide Try.prog W .any base t v)
    (hW : DataW.Whole eh Try.prog fn.params.toList s.vars false W args.toList ds gs before) :
    Calls Try.prog fid args W fun e W' => ∃ v, e = .returned v ∧ s.post eh Try.prog fn false true false false W args v W' := by
  have hW' := hW
  obtain ⟨p, q, hA, hV, hps, hfz, hnd⟩ := hW
  rw [hpar] at hA hval
  rw [hvars] at hV
  obtain ⟨v0, vs0, d0, ds0, p0, q0, hargs, rfl, rfl, h0, r0⟩ := trodAll_cons hA
  obtain ⟨v1, vs1, d1, ds1, p1, q1, hargs1, rfl, rfl, h1, r1⟩ := trodAll_cons r0
  obtain ⟨rfl, rfl, rfl⟩ := trodAll_nil r1
  subst hargs1
  obtain rfl : args = #[v0, v1] := by cases args; simp_all
  obtain ⟨rfl, rfl⟩ := trodVars_none hV
  obtain ⟨fs, hfs⟩ := struct_flds hl
  obtain ⟨x, hx, _, _⟩ := arg_struct hO hfs (hval 0 t v0 rfl rfl) h0
  have h3 : Try.prog.underlying 3 = some (.int .i64) := by kernel_rfl
  obtain ⟨b, hb, _, _⟩ := arg_cell (α := Int) (enc := fun n => ai n) o_int h3 nofun nofun (hval 1 3 v1 rfl rfl) h1
  refine (law_calls (hp x b) rfl (fun i a v ha hv => ?_)).mono fun e W' ⟨he, g, g', hE⟩ => ?_
  · match i with
    | 0 => cases ha; cases hv; exact hx
    | 1 => cases ha; cases hv; exact hb
    | i + 2 => simp at ha
  · subst he
    have hs := hspec H d0 d1
    have hrd3 : Try.prog.readableRec 3 = true ∧ 3 < Try.prog.types.size := by decide +kernel
    exact ⟨_, rfl, law_post (tb := 4) laid (by rw [hpar]; intro t' ht'; simp at ht'; rcases ht' with rfl | rfl; exact hrd; exact hrd3) hvars (by rw [List.append_nil, hs]) (by rw [List.append_nil, hs]) (by rw [List.append_nil, hs]) hrt (by kernel_rfl) hW' hE⟩
end Go.Proofs.Ytmapiefbnjaikaa.Vm
/- Laws: the program's expansion is the reference's. -/
set_option linter.all false
namespace Go.Proofs.Ytmapiefbnjaikaa.Vm
open Go

/-- the same error, or the same state -/
def Eqv (a b : Exp × Int) : Prop := a.2 = b.2 ∧ (a.2 = 0 → a = b)
theorem Eqv.refl (a : Exp × Int) : Eqv a a := ⟨rfl, fun _ => rfl⟩
theorem keep_eqv {s : Exp} {x : Segment} {a : Int} (h : s.out.length ≤ 32) : Eqv (keepP ⟨s.out, a⟩ x) (s.keep x a) := by
  unfold keepP Exp.keep
  by_cases h32 : 32 ≤ s.out.length
  · rw [if_pos (by show s.out.length = 32; omega), if_pos h32]; exact ⟨rfl, nofun⟩
  · rw [if_neg (by show ¬ s.out.length = 32; omega), if_neg h32]; exact .refl _
theorem runL_eqv {f g : Exp → Segment → Exp × Int} (hf : ∀ s x, s.out.length ≤ 32 → Eqv (f s x) (g s x)) (hg : ∀ s x, s.out.length ≤ 32 → (g s x).1.out.length ≤ 32) : ∀ (l : List Segment) (s : Exp), s.out.length ≤ 32 → Eqv (runL f s l) (runL g s l) := by
  intro l
  induction l with
  | nil => intro s _; exact .refl _
  | cons x l ih =>
    intro s hs
    obtain ⟨h1, h2⟩ := hf s x hs
    unfold runL
    by_cases h0 : (f s x).2 = 0
    · rw [if_neg (by simpa using h0), if_neg (by rw [← h1]; simpa using h0), h2 h0]
      exact ih _ (hg s x hs)
    · rw [if_pos h0, if_pos (by rw [← h1]; exact h0)]
      exact ⟨h1, fun h => (h0 h).elim⟩
theorem pol_lookup (ps : List Policy) (k : Int × Int) : (polL ps).lookup k = (polIdx ps k.1 k.2).map fun i => (ps.getD i default).list := by
  induction ps with
  | nil => rfl
  | cons p ps ih =>
    unfold polIdx polL at *
    rw [List.findIdx?_cons, List.map_cons, List.lookup_cons]
    by_cases h : p.node = k.1 ∧ p.binding = k.2
    · have hk : k = p.key := by obtain ⟨a, b⟩ := k; obtain ⟨h1, h2⟩ := h; simp [Policy.key, h1, h2]
      have : (k == p.key) = true := by rw [hk]; exact beq_self_eq_true _
      rw [this, if_pos (by simp [h.1, h.2])]; rfl
    · have hk : ¬ k = p.key := fun e => h (by rw [e]; exact ⟨rfl, rfl⟩)
      have : (k == p.key) = false := by simpa using hk
      rw [this, if_neg (by simpa using h)]
      show (List.map _ ps).lookup k = _
      rw [ih, Option.map_map]
      rfl
theorem polIdx_key {ps : List Policy} {a b : Int} {i : Nat} (h : polIdx ps a b = some i) : i < ps.length ∧ (ps.getD i default).key = (a, b) := by
  unfold polIdx at h
  rw [List.findIdx?_eq_some_iff_getElem] at h
  obtain ⟨hi, h, _⟩ := h
  simp only [Bool.and_eq_true, decide_eq_true_eq] at h
  refine ⟨hi, ?_⟩
  rw [List.getD_eq_getElem?_getD, List.getElem?_eq_getElem hi]
  simp [Policy.key, h.1, h.2]
theorem key_inj {ps : List Policy} (hn : (ps.map Policy.key).Nodup) {i j : Nat} (hi : i < ps.length) (hj : j < ps.length) (h : (ps.getD i default).key = (ps.getD j default).key) : i = j := by
  refine (List.getElem_inj (h₀ := by simpa using hi) (h₁ := by simpa using hj) hn).1 ?_
  simp only [List.getElem_map]
  rw [List.getD_eq_getElem?_getD, List.getD_eq_getElem?_getD, List.getElem?_eq_getElem hi, List.getElem?_eq_getElem hj] at h
  exact h
def keyAt (ps : List Policy) (i : Nat) : Int × Int := (ps.getD i default).key

theorem one_eqv {t : Topology} {ps : List Policy} (hn : (ps.map Policy.key).Nodup) {opn : List Nat} (ho : ∀ i ∈ opn, i < ps.length) {s : Exp} {x : Segment} (h32 : s.out.length ≤ 32) {dp : List Segment → Exp × Int} {d : Nat → Exp × Int}
    (hd : ∀ i, i < ps.length → keyAt ps i = (s.at_, x.num) → Eqv (dp (ps.getD i default).list) (d i)) : Eqv (oneP t ps (opn.map (keyAt ps)) s x dp) (oneG t ps opn s x d) := by
  unfold oneP oneG
  split
  · exact keep_eqv h32
  split
  · exact keep_eqv h32
  split
  · exact .refl _
  split
  · split
    · exact .refl _
    · exact keep_eqv h32
  rw [pol_lookup]
  cases hi : polIdx ps s.at_ x.num with
  | none => exact .refl _
  | some i =>
    obtain ⟨hil, hik⟩ := polIdx_key hi
    have hm : (s.at_, x.num) ∈ opn.map (keyAt ps) ↔ i ∈ opn := by
      rw [List.mem_map]
      constructor
      · rintro ⟨j, hj, hjk⟩
        rwa [key_inj hn hil (ho j hj) (hik.trans hjk.symm)]
      · intro h; exact ⟨i, h, hik⟩
    show Eqv (if (s.at_, x.num) ∈ opn.map (keyAt ps) then (s, 16) else dp (ps.getD i default).list) (if i ∈ opn then (s, 16) else d i)
    by_cases h : i ∈ opn
    · rw [if_pos (hm.2 h), if_pos h]; exact .refl _
    · rw [if_neg (fun h' => h (hm.1 h')), if_neg h]; exact hd i hil hik
theorem seg_eqv {t : Topology} {ps : List Policy} (hn : (ps.map Policy.key).Nodup) : ∀ (n : Nat) (opn : List Nat), (∀ i ∈ opn, i < ps.length) → ∀ (s : Exp) (x : Segment), s.out.length ≤ 32 → Eqv (segP t ps n (opn.map (keyAt ps)) s x) (one21 t ps n opn s x) := by
  intro n
  induction n with
  | zero => intro opn ho s x h; exact one_eqv hn ho h fun i _ _ => .refl _
  | succ n ih =>
    intro opn ho s x h
    refine one_eqv hn ho h fun i hi hk => ?_
    rw [← hk, show opn.map (keyAt ps) ++ [keyAt ps i] = (opn ++ [i]).map (keyAt ps) by simp]
    refine runL_eqv (fun s x h => ih (opn ++ [i]) (fun j hj => ?_) s x h) (fun s x h => one21_len t ps n _ s x h) _ _ h
    rcases List.mem_append.1 hj with hj | hj
    · exact ho j hj
    · simp at hj; subst hj; exact hi
theorem expand_eq (t : Topology) (ps : List Policy) (node : Int) (l : List Segment) : expandP t ps node l = expand21 t ps node l := by
  unfold expandP expand21
  by_cases h : polsValid t ps = false ∨ l.all (·.valid t) = false
  · rw [if_pos h, if_pos h]
  · rw [if_neg h, if_neg h]
    have hn : (ps.map Policy.key).Nodup := by
      simp only [not_or, Bool.not_eq_false, polsValid, Bool.and_eq_true, decide_eq_true_eq] at h
      exact h.1.2
    obtain ⟨h1, h2⟩ := runL_eqv (fun s x hs => seg_eqv (t := t) hn ps.length [] nofun s x hs) (fun s x hs => one21_len t ps ps.length [] s x hs) l ⟨[], node⟩ (Nat.zero_le _)
    rw [List.map_nil] at h1 h2
    by_cases hnode : node < 0 ∨ t.nodes ≤ node
    · rw [if_pos hnode, if_pos hnode]
    rw [if_neg hnode, if_neg hnode]
    by_cases h0 : (runL (segP t ps ps.length []) ⟨[], node⟩ l).2 = 0
    · rw [h2 h0]
    · rw [if_pos h0, if_pos (by rw [← h1]; exact h0), h1]
end Go.Proofs.Ytmapiefbnjaikaa.Vm
/- Laws: what an expansion is. -/
set_option linter.all false
namespace Go.Proofs.Ytmapiefbnjaikaa.Vm
open Go

theorem runL_cons (f : Exp → Segment → Exp × Int) (s : Exp) (x : Segment) (l : List Segment) : runL f s (x :: l) = if (f s x).2 ≠ 0 then f s x else runL f (f s x).1 l := rfl
theorem runL_append (f : Exp → Segment → Exp × Int) : ∀ (a b : List Segment) (s : Exp), runL f s (a ++ b) = if (runL f s a).2 ≠ 0 then runL f s a else runL f (runL f s a).1 b := by
  intro a
  induction a with
  | nil => intro b s; rfl
  | cons x a ih =>
    intro b s
    rw [List.cons_append, runL_cons, runL_cons]
    by_cases h : (f s x).2 ≠ 0
    · rw [if_pos h, if_pos h, if_pos h]
    · rw [if_neg h, if_neg h]; exact ih b _
/-- a segment that is kept as it is -/
def plain (t : Topology) (s : Exp) (x : Segment) : Exp × Int :=
  if x.kind = 1 then s.keep x x.num
  else if x.kind = 3 then s.keep x (-1)
  else if s.at_ < 0 then (s, 7)
  else if t.tail x.num ≠ s.at_ then (s, 4) else s.keep x (t.head x.num)
def kinds (x : Segment) : Prop := x.kind = 1 ∨ x.kind = 2 ∨ x.kind = 3
theorem oneG_plain {t : Topology} {ps : List Policy} {opn : List Nat} {s : Exp} {x : Segment} {d : Nat → Exp × Int} (h : kinds x) : oneG t ps opn s x d = plain t s x := by
  unfold oneG plain
  rcases h with h | h | h <;> simp [h]
theorem one21_plain {t : Topology} {ps : List Policy} (n : Nat) (opn : List Nat) {s : Exp} {x : Segment} (h : kinds x) : one21 t ps n opn s x = plain t s x := by
  cases n <;> exact oneG_plain h
theorem runL_congr {f g : Exp → Segment → Exp × Int} : ∀ (l : List Segment), (∀ x ∈ l, ∀ s, f s x = g s x) → ∀ s, runL f s l = runL g s l := by
  intro l
  induction l with
  | nil => intro _ s; rfl
  | cons x l ih =>
    intro h s
    rw [runL_cons, runL_cons, h x (by simp) s, ih (fun y hy => h y (List.mem_cons_of_mem _ hy))]
theorem runL_plain {t : Topology} {ps : List Policy} {n : Nat} {opn : List Nat} {l : List Segment} (h : ∀ x ∈ l, kinds x) (s : Exp) : runL (one21 t ps n opn) s l = runL (plain t) s l :=
  runL_congr l (fun x hx s => one21_plain n opn (h x hx)) s
theorem keep_out {s : Exp} {x : Segment} {a : Int} (h : (s.keep x a).2 = 0) : (s.keep x a).1.out = s.out ++ [x] := by
  unfold Exp.keep at *
  split at h
  · simp at h
  · rename_i hn; rw [if_neg hn]
theorem plain_out {t : Topology} {s : Exp} {x : Segment} (h : (plain t s x).2 = 0) : (plain t s x).1.out = s.out ++ [x] := by
  unfold plain at *
  repeat' split at h
  all_goals simp only [*, ↓reduceIte, not_false_eq_true, not_true_eq_false, ne_eq]
  all_goals first | exact keep_out h | (simp at h; done)
theorem runL_plain_out {t : Topology} : ∀ (l : List Segment) (s : Exp), (runL (plain t) s l).2 = 0 → (runL (plain t) s l).1.out = s.out ++ l := by
  intro l
  induction l with
  | nil => intro s _; simp [runL]
  | cons x l ih =>
    intro s h
    rw [runL_cons] at h ⊢
    by_cases h0 : (plain t s x).2 = 0
    · rw [if_neg (by simpa using h0)] at h ⊢
      rw [ih _ h, plain_out h0]; simp
    · rw [if_pos h0] at h; exact absurd h h0
theorem valid_kinds {t : Topology} {x : Segment} (h : x.valid t = true) (h4 : x.kind ≠ 4) : kinds x := by
  unfold Segment.valid at h
  unfold kinds
  repeat' split at h
  all_goals simp_all

/-- what an expansion keeps could be kept as it is -/
def Was (t : Topology) (s : Exp) (r : Exp × Int) : Prop := r.2 = 0 → ∃ w, (∀ x ∈ w, x.valid t = true ∧ x.kind ≠ 4) ∧ runL (plain t) s w = r
theorem runL_was {t : Topology} {f : Exp → Segment → Exp × Int} (hf : ∀ s x, x.valid t = true → Was t s (f s x)) : ∀ (l : List Segment), (∀ x ∈ l, x.valid t = true) → ∀ s, Was t s (runL f s l) := by
  intro l
  induction l with
  | nil => intro _ s _; exact ⟨[], nofun, rfl⟩
  | cons x l ih =>
    intro hl s h
    rw [runL_cons] at h ⊢
    by_cases h0 : (f s x).2 = 0
    · rw [if_neg (by simpa using h0)] at h ⊢
      obtain ⟨w1, a1, a2⟩ := hf s x (hl x (by simp)) h0
      obtain ⟨w2, b1, b2⟩ := ih (fun y hy => hl y (List.mem_cons_of_mem _ hy)) _ h
      refine ⟨w1 ++ w2, fun y hy => (List.mem_append.1 hy).elim (a1 y) (b1 y), ?_⟩
      rw [runL_append, a2, if_neg (by simpa using h0), b2]
    · rw [if_pos h0] at h; exact absurd h h0
theorem one21_was {t : Topology} {ps : List Policy} (hps : ∀ p ∈ ps, ∀ x ∈ p.list, x.valid t = true) : ∀ (n : Nat) (opn : List Nat) (s : Exp) (x : Segment), x.valid t = true → Was t s (one21 t ps n opn s x) := by
  have key : ∀ (opn : List Nat) (s : Exp) (x : Segment) (d : Nat → Exp × Int), x.valid t = true → (∀ i, i < ps.length → Was t s (d i)) → Was t s (oneG t ps opn s x d) := by
    intro opn s x d hx hd
    by_cases h4 : x.kind = 4
    · unfold oneG
      simp only [h4]
      rw [if_neg (by decide), if_neg (by decide)]
      split
      · exact fun h => by simp at h
      rw [if_neg (by decide)]
      cases hi : polIdx ps s.at_ x.num with
      | none => exact fun h => by simp at h
      | some i =>
        show Was t s (if i ∈ opn then (s, 16) else d i)
        split
        · exact fun h => by simp at h
        · exact hd i (polIdx_key hi).1
    · have hk := valid_kinds hx h4
      rw [oneG_plain hk]
      intro h
      refine ⟨[x], fun y hy => by simp at hy; subst hy; exact ⟨hx, h4⟩, ?_⟩
      rw [runL_cons, if_neg (by simpa using h)]
      show ((plain t s x).1, 0) = _
      rw [← h]
  intro n
  induction n with
  | zero => intro opn s x hx; exact key _ _ _ _ hx fun i _ h => by simp at h
  | succ n ih =>
    intro opn s x hx
    refine key _ _ _ _ hx fun i hi => runL_was (fun s x hx => ih _ s x hx) _ (fun y hy => ?_) s
    rw [List.getD_eq_getElem?_getD, List.getElem?_eq_getElem hi] at hy
    exact hps _ (List.getElem_mem hi) y hy

theorem polsValid_lists {t : Topology} {ps : List Policy} (h : polsValid t ps = true) : t.valid = true ∧ ∀ p ∈ ps, ∀ x ∈ p.list, x.valid t = true := by
  simp only [polsValid, Bool.and_eq_true, List.all_eq_true, Policy.good, decide_eq_true_eq] at h
  exact ⟨h.1.1, fun p hp => (h.1.2 p hp).2⟩
theorem polsValid_nil {t : Topology} (h : t.valid = true) : polsValid t [] = true := by simp [polsValid, h]
theorem expand_ok {t : Topology} {ps : List Policy} {node : Int} {l : List Segment} (h : (expand21 t ps node l).2 = 0) :
    polsValid t ps = true ∧ (∀ x ∈ l, x.valid t = true) ∧ 0 ≤ node ∧ node < t.nodes ∧ (runL (one21 t ps ps.length []) ⟨[], node⟩ l).2 = 0 ∧ (expand21 t ps node l).1 = (runL (one21 t ps ps.length []) ⟨[], node⟩ l).1.out := by
  unfold expand21 at *
  by_cases h1 : polsValid t ps = false ∨ l.all (·.valid t) = false
  · rw [if_pos h1] at h; exact absurd h (by decide)
  rw [if_neg h1] at h ⊢
  by_cases h2 : node < 0 ∨ t.nodes ≤ node
  · rw [if_pos h2] at h; exact absurd h (by decide)
  rw [if_neg h2] at h ⊢
  by_cases h3 : (runL (one21 t ps ps.length []) ⟨[], node⟩ l).2 = 0
  · rw [if_neg (by simpa using h3)]
    simp only [not_or, Bool.not_eq_false, List.all_eq_true] at h1
    exact ⟨h1.1, h1.2, by omega, by omega, h3, rfl⟩
  · rw [if_pos h3] at h; exact absurd h h3
theorem expand_mk {t : Topology} {ps : List Policy} {node : Int} {l : List Segment} (h1 : polsValid t ps = true) (h2 : ∀ x ∈ l, x.valid t = true) (h3 : 0 ≤ node) (h4 : node < t.nodes) :
    expand21 t ps node l = if (runL (one21 t ps ps.length []) ⟨[], node⟩ l).2 ≠ 0 then ([], (runL (one21 t ps ps.length []) ⟨[], node⟩ l).2) else ((runL (one21 t ps ps.length []) ⟨[], node⟩ l).1.out, 0) := by
  unfold expand21
  rw [if_neg (by simp only [not_or, Bool.not_eq_false, List.all_eq_true]; exact ⟨h1, h2⟩), if_neg (by omega)]
theorem expand_no {t : Topology} {ps : List Policy} {node : Int} {l : List Segment} (h : (expand21 t ps node l).2 ≠ 0) : (expand21 t ps node l).1 = [] := by
  unfold expand21 at *
  repeat' split
  all_goals first | rfl | skip
  rename_i h1 h2 h3
  rw [if_neg h1, if_neg h2, if_neg h3] at h
  exact absurd rfl h
theorem expand_len (t : Topology) (ps : List Policy) (node : Int) (l : List Segment) : (expand21 t ps node l).1.length ≤ 32 := by
  by_cases h : (expand21 t ps node l).2 = 0
  · rw [(expand_ok h).2.2.2.2.2]
    exact runL_len (fun s x h => one21_len t ps _ _ s x h) _ _ (Nat.zero_le _)
  · rw [expand_no h]; exact Nat.zero_le _
/-- .. of an expanded list -/
theorem expand_again {t : Topology} {ps : List Policy} {node : Int} {l : List Segment} (h : (expand21 t ps node l).2 = 0) :
    (∀ x ∈ (expand21 t ps node l).1, x.kind ≠ 4) ∧ ∀ ps', polsValid t ps' = true → expand21 t ps' node (expand21 t ps node l).1 = ((expand21 t ps node l).1, 0) := by
  obtain ⟨h1, h2, h3, h4, h5, h6⟩ := expand_ok h
  obtain ⟨w, w1, w2⟩ := runL_was (one21_was (polsValid_lists h1).2 ps.length []) l h2 ⟨[], node⟩ h5
  have hw : (expand21 t ps node l).1 = w := by
    rw [h6, ← w2, runL_plain_out w _ (by rw [w2]; exact h5)]; rfl
  rw [hw]
  refine ⟨fun x hx => (w1 x hx).2, fun ps' hv => ?_⟩
  rw [expand_mk hv (fun x hx => (w1 x hx).1) h3 h4, runL_plain fun x hx => valid_kinds (w1 x hx).1 (w1 x hx).2, if_neg (by rw [w2]; simpa using h5),
    runL_plain_out w _ (by rw [w2]; exact h5)]
  rfl
/-- .. of a list without policies in it -/
theorem expand_plain {t : Topology} {ps : List Policy} {node : Int} {l : List Segment} (hv : polsValid t ps = true) (h4 : ∀ x ∈ l, x.kind ≠ 4) :
    (expand21 t ps node l).2 = (expand21 t [] node l).2 ∧ ((expand21 t ps node l).2 = 0 → (expand21 t ps node l).1 = l) := by
  have hv0 := polsValid_nil (polsValid_lists hv).1
  by_cases hl : l.all (·.valid t) = true
  · have hk : ∀ x ∈ l, kinds x := fun x hx => valid_kinds (List.all_eq_true.1 hl x hx) (h4 x hx)
    unfold expand21
    rw [if_neg (by rw [hv, hl]; simp), if_neg (c := polsValid t [] = false ∨ _) (by rw [hv0, hl]; simp), runL_plain hk, runL_plain hk]
    refine ⟨rfl, fun h => ?_⟩
    by_cases h2 : node < 0 ∨ t.nodes ≤ node
    · rw [if_pos h2] at h; exact absurd h (by decide)
    rw [if_neg h2] at h ⊢
    by_cases h3 : (runL (plain t) ⟨[], node⟩ l).2 = 0
    · rw [if_neg (by simpa using h3)]
      show (runL (plain t) ⟨[], node⟩ l).1.out = l
      rw [runL_plain_out l _ h3]; rfl
    · rw [if_pos h3] at h; exact absurd h h3
  · unfold expand21
    rw [if_pos (.inr (by simpa using hl)), if_pos (.inr (by simpa using hl))]
    exact ⟨rfl, fun h => absurd h (by decide)⟩
end Go.Proofs.Ytmapiefbnjaikaa.Vm
/- Laws: the expansion of a list in two parts. -/
set_option linter.all false
namespace Go.Proofs.Ytmapiefbnjaikaa.Vm
open Go

def NotRange (r : Exp × Int) : Prop := r.2 ≠ 2
theorem runL_nr {f : Exp → Segment → Exp × Int} (hf : ∀ s x, NotRange (f s x)) : ∀ (l : List Segment) (s : Exp), NotRange (runL f s l) := by
  intro l
  induction l with
  | nil => intro s h; simp [runL] at h
  | cons x l ih =>
    intro s
    rw [runL_cons]
    split
    · exact hf s x
    · exact ih _
theorem keep_nr (s : Exp) (x : Segment) (a : Int) : NotRange (s.keep x a) := by
  unfold Exp.keep NotRange
  split <;> simp
theorem oneG_nr {t : Topology} {ps : List Policy} {opn : List Nat} {s : Exp} {x : Segment} {d : Nat → Exp × Int} (hd : ∀ i, NotRange (d i)) : NotRange (oneG t ps opn s x d) := by
  unfold oneG
  repeat' split
  all_goals first | exact keep_nr _ _ _ | exact hd _ | (simp [NotRange]; done)
theorem one21_nr (t : Topology) (ps : List Policy) : ∀ (n : Nat) (opn : List Nat) (s : Exp) (x : Segment), NotRange (one21 t ps n opn s x) := by
  intro n
  induction n with
  | zero => intro opn s x; exact oneG_nr fun i => by simp [NotRange]
  | succ n ih => intro opn s x; exact oneG_nr fun i => runL_nr (fun s x => ih _ s x) _ _

def Grows (s : Exp) (r : Exp × Int) : Prop := r.2 = 0 → s.out.length ≤ r.1.out.length
theorem runL_grows {f : Exp → Segment → Exp × Int} (hf : ∀ s x, Grows s (f s x)) : ∀ (l : List Segment) (s : Exp), Grows s (runL f s l) := by
  intro l
  induction l with
  | nil => intro s _; exact Nat.le_refl _
  | cons x l ih =>
    intro s
    rw [runL_cons]
    split
    · exact hf s x
    · rename_i h; exact fun h' => Nat.le_trans (hf s x (by simpa using h)) (ih _ h')
theorem keep_grows (s : Exp) (x : Segment) (a : Int) : Grows s (s.keep x a) := fun h => by rw [keep_out h]; simp
theorem oneG_grows {t : Topology} {ps : List Policy} {opn : List Nat} {s : Exp} {x : Segment} {d : Nat → Exp × Int} (hd : ∀ i, Grows s (d i)) : Grows s (oneG t ps opn s x d) := by
  unfold oneG
  repeat' split
  all_goals first | exact keep_grows _ _ _ | exact hd _ | exact fun h => by simp at h
theorem one21_grows (t : Topology) (ps : List Policy) : ∀ (n : Nat) (opn : List Nat) (s : Exp) (x : Segment), Grows s (one21 t ps n opn s x) := by
  intro n
  induction n with
  | zero => intro opn s x; exact oneG_grows fun i h => by simp at h
  | succ n ih => intro opn s x; exact oneG_grows fun i => runL_grows (fun s x => ih _ s x) _ _

/-- the same behind a list p that is there already -/
def Shift (p : List Segment) (r R : Exp × Int) : Prop :=
  (r.2 ≠ 0 → R.2 = r.2 ∨ R.2 = 6) ∧ (r.2 = 0 → (p.length + r.1.out.length ≤ 32 → R = (⟨p ++ r.1.out, r.1.at_⟩, 0)) ∧ (32 < p.length + r.1.out.length → R.2 = 6))
theorem shift_no {p : List Segment} {s S : Exp} {e : Int} (h : e ≠ 0) : Shift p (s, e) (S, e) := ⟨fun _ => .inl rfl, fun h' => absurd h' h⟩
def on (p : List Segment) (s : Exp) : Exp := ⟨p ++ s.out, s.at_⟩
theorem keep_shift {p : List Segment} {s : Exp} {x : Segment} {a : Int} : Shift p (s.keep x a) ((on p s).keep x a) := by
  unfold Exp.keep on
  simp only [List.length_append]
  by_cases h : 32 ≤ s.out.length
  · rw [if_pos h, if_pos (by omega)]; exact shift_no (by decide)
  · rw [if_neg h]
    refine ⟨fun h => by simp at h, fun _ => ⟨fun h1 => ?_, fun h1 => ?_⟩⟩
    · simp only [List.length_append, List.length_singleton] at h1
      rw [if_neg (by omega), List.append_assoc]
    · simp only [List.length_append, List.length_singleton] at h1
      rw [if_pos (by omega)]
theorem runL_shift {p : List Segment} {f : Exp → Segment → Exp × Int} (hf : ∀ s x, p.length + s.out.length ≤ 32 → Shift p (f s x) (f (on p s) x)) (hg : ∀ s x, Grows s (f s x)) : ∀ (l : List Segment) (s : Exp), p.length + s.out.length ≤ 32 → Shift p (runL f s l) (runL f (on p s) l) := by
  intro l
  induction l with
  | nil =>
    intro s h
    exact ⟨fun h => by simp [runL] at h, fun _ => ⟨fun _ => rfl, fun h' => by simp only [runL] at h'; omega⟩⟩
  | cons x l ih =>
    intro s h
    obtain ⟨h1, h2⟩ := hf s x h
    rw [runL_cons, runL_cons]
    by_cases h0 : (f s x).2 = 0
    · rw [if_neg (by simpa using h0)]
      obtain ⟨h3, h4⟩ := h2 h0
      by_cases hb : p.length + (f s x).1.out.length ≤ 32
      · rw [h3 hb, if_neg (by simp)]
        exact ih _ hb
      · have h6 := h4 (by omega)
        rw [if_pos (by rw [h6]; decide)]
        refine ⟨fun _ => .inr h6, fun h' => ⟨fun hc => ?_, fun _ => h6⟩⟩
        have := runL_grows hg l _ h'
        omega
    · rw [if_pos h0, if_pos (by rcases h1 h0 with h | h <;> rw [h]; exact h0; decide)]
      exact ⟨h1, fun h => absurd h h0⟩
theorem oneG_shift {t : Topology} {ps : List Policy} {p : List Segment} {opn : List Nat} {s : Exp} {x : Segment} {d d' : Nat → Exp × Int} (hd : ∀ i, Shift p (d i) (d' i)) : Shift p (oneG t ps opn s x d) (oneG t ps opn (on p s) x d') := by
  unfold oneG
  by_cases h1 : x.kind = 1
  · rw [if_pos h1, if_pos h1]; exact keep_shift
  rw [if_neg h1, if_neg h1]
  by_cases h3 : x.kind = 3
  · rw [if_pos h3, if_pos h3]; exact keep_shift
  rw [if_neg h3, if_neg h3]
  by_cases ha : s.at_ < 0
  · rw [if_pos ha, if_pos (show (on p s).at_ < 0 from ha)]; exact shift_no (by decide)
  rw [if_neg ha, if_neg (show ¬ (on p s).at_ < 0 from ha)]
  by_cases h2 : x.kind = 2
  · rw [if_pos h2, if_pos h2]
    by_cases ht : t.tail x.num ≠ s.at_
    · rw [if_pos ht, if_pos (show t.tail x.num ≠ (on p s).at_ from ht)]; exact shift_no (by decide)
    · rw [if_neg ht, if_neg (show ¬ t.tail x.num ≠ (on p s).at_ from ht)]; exact keep_shift
  rw [if_neg h2, if_neg h2, show (on p s).at_ = s.at_ from rfl]
  cases polIdx ps s.at_ x.num with
  | none => exact shift_no (show (8 : Int) ≠ 0 by decide)
  | some i =>
    show Shift p (if i ∈ opn then (s, 16) else d i) (if i ∈ opn then (on p s, 16) else d' i)
    by_cases hi : i ∈ opn
    · rw [if_pos hi, if_pos hi]; exact shift_no (by decide)
    · rw [if_neg hi, if_neg hi]; exact hd i
theorem one21_shift (t : Topology) (ps : List Policy) (p : List Segment) : ∀ (n : Nat) (opn : List Nat) (s : Exp) (x : Segment), p.length + s.out.length ≤ 32 → Shift p (one21 t ps n opn s x) (one21 t ps n opn (on p s) x) := by
  intro n
  induction n with
  | zero => intro opn s x _; exact oneG_shift fun i => shift_no (by decide)
  | succ n ih => intro opn s x h; exact oneG_shift fun i => runL_shift (fun s x h => ih _ s x h) (fun s x => one21_grows t ps n _ s x) _ _ h

theorem run_last {t : Topology} {ps : List Policy} {n : Nat} {opn : List Nat} {s : Exp} {l : List Segment} {x : Segment} (hx : x.kind = 1) (h : (runL (one21 t ps n opn) s (l ++ [x])).2 = 0) : (runL (one21 t ps n opn) s (l ++ [x])).1.at_ = x.num := by
  rw [runL_append] at h ⊢
  by_cases h0 : (runL (one21 t ps n opn) s l).2 = 0
  · rw [if_neg (by simpa using h0)] at h ⊢
    rw [runL_cons, one21_plain n opn (.inl hx)] at h ⊢
    unfold plain at *
    rw [if_pos hx] at h ⊢
    unfold Exp.keep at *
    by_cases h1 : 32 ≤ (runL (one21 t ps n opn) s l).1.out.length
    · rw [if_pos h1] at h; simp at h
    · rw [if_neg h1]; rfl
  · rw [if_pos h0] at h; exact absurd h h0

theorem expand_parts {t : Topology} {ps : List Policy} {node : Int} {l1 l2 : List Segment} {x : Segment} (hx : x.kind = 1) :
    ((expand21 t ps node ((l1 ++ [x]) ++ l2)).2 = 1 ∨ (expand21 t ps node ((l1 ++ [x]) ++ l2)).2 = 2 ∨ (expand21 t ps node (l1 ++ [x])).2 ≠ 0 →
      (expand21 t ps node ((l1 ++ [x]) ++ l2)).2 = 1 ∨ (expand21 t ps node ((l1 ++ [x]) ++ l2)).2 = (expand21 t ps node (l1 ++ [x])).2) ∧
    (¬ ((expand21 t ps node ((l1 ++ [x]) ++ l2)).2 = 1 ∨ (expand21 t ps node ((l1 ++ [x]) ++ l2)).2 = 2 ∨ (expand21 t ps node (l1 ++ [x])).2 ≠ 0) →
      ((expand21 t ps x.num l2).2 ≠ 0 ∨ 32 < (expand21 t ps node (l1 ++ [x])).1.length + (expand21 t ps x.num l2).1.length → (expand21 t ps node ((l1 ++ [x]) ++ l2)).2 = (expand21 t ps x.num l2).2 ∨ (expand21 t ps node ((l1 ++ [x]) ++ l2)).2 = 6) ∧
      (¬ ((expand21 t ps x.num l2).2 ≠ 0 ∨ 32 < (expand21 t ps node (l1 ++ [x])).1.length + (expand21 t ps x.num l2).1.length) → (expand21 t ps node ((l1 ++ [x]) ++ l2)).2 = 0 ∧
        (expand21 t ps node ((l1 ++ [x]) ++ l2)).1 = (expand21 t ps node (l1 ++ [x])).1 ++ (expand21 t ps x.num l2).1)) := by
  by_cases hv : polsValid t ps = true ∧ ∀ y ∈ (l1 ++ [x]) ++ l2, y.valid t = true
  · obtain ⟨hps, hl⟩ := hv
    have ha : ∀ y ∈ l1 ++ [x], y.valid t = true := fun y hy => hl y (List.mem_append.2 (.inl hy))
    have hb : ∀ y ∈ l2, y.valid t = true := fun y hy => hl y (List.mem_append.2 (.inr hy))
    have hxv := ha x (by simp)
    have hxn : 0 ≤ x.num ∧ x.num < t.nodes := by
      unfold Segment.valid at hxv
      rw [if_pos hx] at hxv
      split at hxv
      · exact absurd hxv (by decide)
      · rename_i h; simp only [decide_eq_true_eq] at hxv; omega
    by_cases hr : 0 ≤ node ∧ node < t.nodes
    · rw [expand_mk hps hl hr.1 hr.2, expand_mk hps ha hr.1 hr.2, expand_mk hps hb hxn.1 hxn.2, runL_append]
      have hlast := @run_last t ps ps.length [] ⟨[], node⟩ l1 x hx
      have hlen := runL_len (fun s y h => one21_len t ps ps.length [] s y h) (l1 ++ [x]) ⟨[], node⟩ (Nat.zero_le _)
      have hnr := runL_nr (fun s x => one21_nr t ps ps.length [] s x) (l1 ++ [x]) ⟨[], node⟩
      generalize hA : runL (one21 t ps ps.length []) ⟨[], node⟩ (l1 ++ [x]) = A at hlast hlen hnr
      by_cases h0 : A.2 = 0
      · simp only [h0, ne_eq, not_true_eq_false, ↓reduceIte, or_false]
        have hat := hlast h0
        have hsh := runL_shift (p := A.1.out) (fun s y h => one21_shift t ps A.1.out ps.length [] s y h) (fun s y => one21_grows t ps ps.length [] s y) l2 ⟨[], x.num⟩ (by simpa using hlen)
        have hon : on A.1.out ⟨[], x.num⟩ = A.1 := by unfold on; rw [List.append_nil, ← hat]
        rw [hon] at hsh
        have hnr2 := runL_nr (fun s x => one21_nr t ps ps.length [] s x) l2 A.1
        have hgl := runL_len (fun s y h => one21_len t ps ps.length [] s y h) l2 ⟨[], x.num⟩ (Nat.zero_le _)
        generalize runL (one21 t ps ps.length []) A.1 l2 = R at hsh hnr2
        generalize runL (one21 t ps ps.length []) ⟨[], x.num⟩ l2 = r at hsh hgl
        obtain ⟨s1, s2⟩ := hsh
        by_cases hr0 : r.2 = 0
        · obtain ⟨s3, s4⟩ := s2 hr0
          simp only [hr0, ↓reduceIte, not_true_eq_false, false_or]
          by_cases hb' : A.1.out.length + r.1.out.length ≤ 32
          · rw [s3 hb']
            simp
          · have h6 := s4 (by omega)
            simp only [h6]
            simp
            omega
        · simp only [hr0, ↓reduceIte, not_false_eq_true, true_or]
          rcases s1 hr0 with h6 | h6
          · simp only [h6, hr0]
            simp
            unfold NotRange at hnr2
            rw [h6] at hnr2
            intro h; exact h.elim .inl fun h => absurd h hnr2
          · simp only [h6]
            simp
      · simp only [h0, ne_eq, not_false_eq_true, ↓reduceIte, or_true]
        simp
    · have hr' : node < 0 ∨ t.nodes ≤ node := by omega
      have he : ∀ l, (∀ y ∈ l, y.valid t = true) → expand21 t ps node l = ([], 2) := fun l h => by
        unfold expand21
        rw [if_neg (by simp only [not_or, Bool.not_eq_false, List.all_eq_true]; exact ⟨hps, h⟩), if_pos hr']
      rw [he _ hl, he _ ha]
      simp
  · have he : expand21 t ps node ((l1 ++ [x]) ++ l2) = ([], 1) := by
      unfold expand21
      rw [if_pos]
      by_cases h1 : polsValid t ps = true
      · refine .inr ?_
        rw [List.all_eq_false]
        exact Classical.byContradiction fun hh => hv ⟨h1, fun y hy => Classical.byContradiction fun hyy => hh ⟨y, hy, hyy⟩⟩
      · exact .inl (by simpa using h1)
    rw [he]
    simp
end Go.Proofs.Ytmapiefbnjaikaa.Vm
/- Contracts: the statements PolicyExpand, PolicyAgain, PolicyParts and PolicyPlain. -/
set_option linter.all false
namespace Go.Proofs.Ytmapiefbnjaikaa.Vm
open Go
set_option maxRecDepth 100000

/-- the program's expansion, by its law -/
theorem expandE_c (t : Topology) (ps : List Policy) (node : Int) (l : List Segment) (hls : ∀ p ∈ ps, p.list.length ≤ 40) (h8 : ps.length ≤ 8) (hlen : l.length ≤ 40) :
    PureCall Try.prog F.policy_Expand [.agg t.enc, asl (ps.map Policy.enc), ai node, asl (l.map Segment.enc)] (.tuple [asl ((expand21 t ps node l).1.map Segment.enc), ai (expand21 t ps node l).2]) := by
  rw [← expand_eq]
  exact expandP_c t ps node l (fun p hp => Nat.lt_of_le_of_lt (hls p hp) (by decide)) (by omega) (by omega)

theorem policyExpand_c (q : Query) : PureCall Try.prog F.law21_PolicyExpand [.agg q.enc] (.bool true) := by
  refine contractS fits K.law21_PolicyExpand ?_
  repeat' (first
      | (exfalso; revert h; decide)
      | ((with_reducible refine step ?_); conv => whnf)
      | (refine call_pure awake_c rfl rfl ?_; conv => whnf)
      | (refine call_pure (large_c q) rfl rfl ?_; conv => whnf)
      | (have hq := large_no h; refine call_pure (heavy_c q (by omega) hq.2.2.2.2) rfl rfl ?_; conv => whnf)
      | (refine call_pure (expandE_c q.t q.policies q.node q.list hq.2.2.2.2 (by omega) (by omega)) rfl rfl ?_; conv => whnf)
      | (refine call_pure (expand21_c q.t q.policies q.node q.list (fun p hp => Nat.lt_of_le_of_lt (hq.2.2.2.2 p hp) (by decide)) (by omega) (by omega)) rfl rfl ?_; conv => whnf)
      | (refine call_pure (same18_c _ (expand21 q.t q.policies q.node q.list).1 (Nat.lt_of_le_of_lt (expand_len ..) (by decide))) rfl rfl ?_; conv => whnf)
      | (with_reducible refine And.intro (fun h => ?_) (fun h => ?_))
      | fail)
  all_goals first
    | exact congrArg AV.bool (decide_eq_true rfl)
    | (exfalso; simp at h; done)

theorem policyPlain_c (q : Query) : PureCall Try.prog F.law21_PolicyPlain [.agg q.enc] (.bool true) := by
  refine contractS fits K.law21_PolicyPlain ?_
  repeat' (first
      | (exfalso; revert h; decide)
      | ((with_reducible refine step ?_); conv => whnf)
      | (refine call_pure awake_c rfl rfl ?_; conv => whnf)
      | (refine call_pure (large_c q) rfl rfl ?_; conv => whnf)
      | (have hq := large_no h; refine call_pure (polsValid21_c q.t q.policies (by omega) (fun p hp => Nat.lt_of_le_of_lt (hq.2.2.2.2 p hp) (by decide))) rfl rfl ?_; conv => whnf)
      | (with_reducible refine And.intro (fun h => ?_) (fun h => ?_))
      | fail)
  simp only [Bool.not_eq_false'] at h
  refine loop_invS (fun i => i ≤ q.list.length ∧ ∀ x ∈ q.list.take i, x.kind ≠ 4) [1, 3] 1 (fun i => [(3, ai i)]) (fun _ => []) (fun i => q.list.length - i) 0 (by decide) (by decide) ?_
  conv => whnf
  refine ⟨rfl, rfl, by simp, fun i ⟨hi, hp⟩ => ?_⟩
  have hv := h
  clear h
  repeat' (first
      | ((with_reducible refine step ?_); conv => whnf)
      | (have hlt : i < q.list.length := (by first | assumption | simp_all); refine idx_nat hlt rfl ?_; conv => whnf)
      | (refine call_pure (expandE_c q.t q.policies q.node q.list hq.2.2.2.2 (by omega) (by omega)) rfl rfl ?_; conv => whnf)
      | (refine call_pure (expandE_c q.t [] q.node q.list nofun (by decide) (by omega)) rfl rfl ?_; conv => whnf)
      | (refine call_pure (same18_c _ q.list (Nat.lt_of_le_of_lt (expand_len ..) (by decide))) rfl rfl ?_; conv => whnf)
      | (with_reducible refine And.intro (fun h => ?_) (fun h => ?_))
      | fail)
  all_goals try simp only [List.length_map, decide_eq_true_eq, decide_eq_false_iff_not, Bool.not_eq_true', Bool.not_eq_false'] at *
  · refine ⟨i + 1, ⟨by omega, fun s hs => ?_⟩, by omega, by rw [wrap_succ (by omega)]; rfl, rfl⟩
    rw [List.take_succ_eq_append_getElem hlt, List.mem_append] at hs
    rcases hs with hs | hs
    · exact hp s hs
    · simp at hs; subst hs; assumption
  all_goals
    obtain rfl : i = q.list.length := by omega
    rw [List.take_length] at hp
    have hpl := expand_plain (node := q.node) hv hp
  · rw [hpl.2 (by assumption)]; simp
  · exact absurd hpl.1 (by assumption)

theorem policyAgain_c (q : Query) : PureCall Try.prog F.law21_PolicyAgain [.agg q.enc] (.bool true) := by
  refine contractS fits K.law21_PolicyAgain ?_
  have hlen := expand_len q.t q.policies q.node q.list
  have hno := @expand_no q.t q.policies q.node q.list
  have hag := @expand_again q.t q.policies q.node q.list
  have hok := @expand_ok q.t q.policies q.node q.list
  generalize hE : expand21 q.t q.policies q.node q.list = E at hlen hno hag hok
  have hcall : large q = false → PureCall Try.prog F.policy_Expand [.agg q.t.enc, asl (q.policies.map Policy.enc), ai q.node, asl (q.list.map Segment.enc)] (.tuple [asl (E.1.map Segment.enc), ai E.2]) := fun h => by
    have hq := large_no h
    rw [← hE]; exact expandE_c q.t q.policies q.node q.list hq.2.2.2.2 (by omega) (by omega)
  repeat' (first
      | (exfalso; revert h; decide)
      | ((with_reducible refine step ?_); conv => whnf)
      | (refine call_pure awake_c rfl rfl ?_; conv => whnf)
      | (refine call_pure (large_c q) rfl rfl ?_; conv => whnf)
      | (have hlg := h; have hq := large_no h; refine call_pure (heavy_c q (by omega) hq.2.2.2.2) rfl rfl ?_; conv => whnf)
      | (refine call_pure (hcall hlg) rfl rfl ?_; conv => whnf)
      | (with_reducible refine And.intro (fun h => ?_) (fun h => ?_))
      | fail)
  · simp only [Bool.not_eq_true', decide_eq_false_iff_not] at h
    rw [hno h]; rfl
  simp only [Bool.not_eq_false', decide_eq_true_eq] at h
  refine loop_invS (fun i => i ≤ E.1.length) [1, 3, 5] 1 (fun i => [(5, ai i)]) (fun _ => []) (fun i => E.1.length - i) 0 (by decide) (by decide) ?_
  conv => whnf
  refine ⟨rfl, rfl, by omega, fun i hi => ?_⟩
  have h0 := h
  clear h
  obtain ⟨hk, hx⟩ := hag h0
  have hx1 := hx q.policies (hok h0).1
  have hx2 := hx [] (polsValid_nil (polsValid_lists (hok h0).1).1)
  have hc1 := expandE_c q.t q.policies q.node E.1 hq.2.2.2.2 (by omega) (by omega)
  have hc2 := expandE_c q.t [] q.node E.1 nofun (by decide) (by omega)
  rw [hx1] at hc1
  rw [hx2] at hc2
  repeat' (first
      | ((with_reducible refine step ?_); conv => whnf)
      | (have hlt : i < E.1.length := (by first | assumption | simp_all); refine idx_nat hlt rfl ?_; conv => whnf)
      | (refine call_pure hc1 rfl rfl ?_; conv => whnf)
      | (refine call_pure hc2 rfl rfl ?_; conv => whnf)
      | (refine call_pure (same18_c E.1 E.1 (by omega)) rfl rfl ?_; conv => whnf)
      | (with_reducible refine And.intro (fun h => ?_) (fun h => ?_))
      | fail)
  · exact absurd (by simpa using h) (hk _ (List.getElem_mem hlt))
  · exact ⟨i + 1, by omega, by omega, by rw [wrap_succ (by omega)]; rfl, rfl⟩
  all_goals first
    | exact congrArg AV.bool (decide_eq_true rfl)
    | (exfalso; simp at h; done)
    | (exfalso; simp at h; omega)
end Go.Proofs.Ytmapiefbnjaikaa.Vm
/- Contracts: the statement PolicyParts. -/
set_option linter.all false
namespace Go.Proofs.Ytmapiefbnjaikaa.Vm
open Go
set_option maxRecDepth 100000

theorem policyParts_c (q : Query) (b : Int) : PureCall Try.prog F.law21_PolicyParts [.agg q.enc, ai b] (.bool true) := by
  refine contractS fits K.law21_PolicyParts ?_
  repeat' (first
      | (exfalso; revert h; decide)
      | ((with_reducible refine step ?_); conv => whnf)
      | (refine call_pure awake_c rfl rfl ?_; conv => whnf)
      | (refine call_pure (large_c q) rfl rfl ?_; conv => whnf)
      | (have hlg := h; have hq := large_no h; refine call_pure (heavy_c q (by omega) hq.2.2.2.2) rfl rfl ?_; conv => whnf)
      | (with_reducible refine And.intro (fun h => ?_) (fun h => ?_))
      | fail)
  simp only [List.length_map, decide_eq_false_iff_not] at *
  obtain ⟨j, rfl⟩ := Int.eq_ofNat_of_zero_le (show 0 ≤ b by omega)
  have hj : j < q.list.length := by omega
  refine idx_nat hj rfl ?_
  conv => whnf
  have hw : IntKind.i64.wrap ((j : Int) + 1) = ((j + 1 : Nat) : Int) := wrap_succ (by omega)
  have hs1 : (q.list.map Segment.enc).take (IntKind.i64.wrap ((j : Int) + 1)).toNat = (q.list.take j ++ [q.list[j]]).map Segment.enc := by
    rw [hw, Int.toNat_natCast, ← List.take_succ_eq_append_getElem hj, List.map_take]
  have hs2 : (q.list.map Segment.enc).drop (IntKind.i64.wrap ((j : Int) + 1)).toNat = (q.list.drop (j + 1)).map Segment.enc := by
    rw [hw, Int.toNat_natCast, List.map_drop]
  have hl : q.list = (q.list.take j ++ [q.list[j]]) ++ q.list.drop (j + 1) := by
    rw [← List.take_succ_eq_append_getElem hj, List.take_append_drop]
  have hcE := expandE_c q.t q.policies q.node q.list hq.2.2.2.2 (by omega) (by omega)
  have hcF := expandE_c q.t q.policies q.node (q.list.take j ++ [q.list[j]]) hq.2.2.2.2 (by omega) (by simp; omega)
  have hcG := expandE_c q.t q.policies q.list[j].num (q.list.drop (j + 1)) hq.2.2.2.2 (by omega) (by simp; omega)
  rw [← hs1] at hcF
  rw [← hs2] at hcG
  have hlE := expand_len q.t q.policies q.node q.list
  have hlF := expand_len q.t q.policies q.node (q.list.take j ++ [q.list[j]])
  have hlG := expand_len q.t q.policies q.list[j].num (q.list.drop (j + 1))
  have hP := fun (hx : q.list[j].kind = 1) => @expand_parts q.t q.policies q.node (q.list.take j) (q.list.drop (j + 1)) q.list[j] hx
  rw [← hl] at hP
  generalize expand21 q.t q.policies q.node q.list = E at hcE hlE hP
  generalize expand21 q.t q.policies q.node (q.list.take j ++ [q.list[j]]) = F at hcF hlF hP
  generalize expand21 q.t q.policies q.list[j].num (q.list.drop (j + 1)) = G at hcG hlG hP
  clear hl hs1 hs2
  repeat' (first
      | (exfalso; revert h; decide)
      | ((with_reducible refine step ?_); conv => whnf)
      | (refine call_pure awake_c rfl rfl ?_; conv => whnf)
      | (refine call_pure hcE rfl rfl ?_; conv => whnf)
      | (refine call_pure hcF rfl rfl ?_; conv => whnf)
      | (refine call_pure hcG rfl rfl ?_; conv => whnf)
      | (with_reducible refine And.intro (fun h => ?_) (fun h => ?_))
      | (refine And.intro (by rw [hw, List.length_map]; omega) ?_; conv => whnf)
      | (refine And.intro (And.intro (by simp [Segment.enc]) (by rw [hw, List.length_map]; omega)) ?_; conv => whnf)
      | (refine idx_nat hj rfl ?_; conv => whnf)
      | (refine call_pure (same18_c E.1 (F.1 ++ G.1) (by omega)) (by rw [List.map_append]; rfl) rfl ?_; conv => whnf)
      | (refine And.intro ?_ ?_; (focus (simp [elemsOk, AV.oneC, big, Segment.enc]; (try omega); done)); conv => whnf)
      | fail)
  all_goals clear hcE hcF hcG
  all_goals
    have hadd : IntKind.i64.wrap ((F.1.length : Int) + (G.1.length : Int)) = (F.1.length : Int) + (G.1.length : Int) := wrap_in (by omega)
    simp only [List.length_map, hadd, decide_eq_true_eq, decide_eq_false_iff_not, Bool.not_eq_true', Bool.not_eq_false', AV.bool.injEq, Bool.false_eq_true] at *
    have hP := hP (by assumption)
    clear hq hw hadd
    obtain ⟨P1, P2⟩ := hP
  all_goals first
    | (simp_all; done)
    | omega
    | (have P4 := (P2 (by grind)).2 (by grind); grind)
end Go.Proofs.Ytmapiefbnjaikaa.Vm
/- The statement PolicyParts. -/
set_option linter.all false
namespace Go.Proofs.Ytmapiefbnjaikaa
open Go Go.ChangeShapes Go.WideShapes Go.ChangeAt Go.RowKit Go.Proofs.Ytmapiefbnjaikaa Go.Proofs.Ytmapiefbnjaikaa.Vm
set_option maxRecDepth 100000
def wit29 : Value := .agg #[.int .i64 0, .slice none 0 0, .slice none 0 0, .slice none 0 0, .int .i64 0, .slice none 0 0]
theorem funcOf : Try.prog.funcs[5]? = some Try.f5 := by kernel_rfl
theorem rd29 : Try.prog.readableRec 29 = true ∧ 29 < Try.prog.types.size := by decide +kernel
theorem fl29 : fldsOf Try.prog 29 = some [(25, 0), (26, 3), (3, 4), (27, 5)] := by kernel_rfl
theorem lifted (os : Os) (started : os.Started) (H : Type) (enc : TypeId × Value → H) :
    ReturnsInHanded {} Try.checked os 5 .any (Rows.policyPartsSpec.pre6 enc Try.prog Try.f5 Rows.policyPartsRow.domain false) (Rows.policyPartsSpec.post enc Try.prog Try.f5 false true false false) := by
  refine returnsInHanded_of_change (C := Try.checked) own started (by kernel_rfl) funcOf
    (ChangeSpec.witness6 (enc := enc) (C := Try.checked) false ⟨#[], #[wit29, .int .i64 0], []⟩ 8 (by kernel_rfl) (by kernel_rfl) (by kernel_rfl) (by kernel_rfl)) ?_
  intro W base args ds gs before hval hW _ _
  exact row2 o_query fl29 policyParts_c rfl rd29 rfl (fun H d d' => rfl) rfl H enc W base args ds gs before hval hW
theorem holds : Rows.PolicyPartsSaid :=
  OpenClaim.holds_of_wide 5 Try.f5 rfl rfl rfl rfl rfl rfl rfl ⟨rfl, rfl, rfl, rfl, rfl⟩ rfl rfl rfl rfl rfl (by kernel_rfl) funcOf (by kernel_rfl)
    (of_decide_eq_true (by kernel_rfl)) (by unfold Func.isWrapper; first | (rw [if_pos (by decide +kernel)]; kernel_rfl) | (rw [if_neg (by decide +kernel)]; exact ⟨rfl, rfl⟩))
    (fun os started H enc _ => lifted os started H enc)
end Go.Proofs.Ytmapiefbnjaikaa
