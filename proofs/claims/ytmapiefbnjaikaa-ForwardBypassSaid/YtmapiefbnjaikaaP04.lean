/- Contracts of the functions that the statement reaches. -/
import Derived.Test.YtmapiefbnjaikaaP03
import Derived.Test.YtmapiefbnjaikaaProg
import Derived.KernelRfl
import Derived.Test.YtmapiefbnjaikaaRows
import Derived.Test.YtmapiefbnjaikaaP02
import Derived.JoinedCond
import Derived.SizedLaws
set_option linter.all false
namespace Go.Proofs.Ytmapiefbnjaikaa.Vm
open Go
def TT : List (List TI) := [
  [⟨.other, 0, 0, []⟩,
   ⟨.func, 1, 8, [.nilfunc]⟩,
   ⟨(.int .i64), 1, 8, [.int .i64 0]⟩,
   ⟨(.int .i64), 1, 8, [.int .i64 0]⟩,
   ⟨.bool, 1, 1, [.bool false]⟩,
   ⟨(.int .u8), 1, 1, [.int .u8 0]⟩,
   ⟨(.int .u8), 1, 1, [.int .u8 0]⟩,
   ⟨(.struct [(0, 2), (1, 3), (2, 4), (3, 6)]), 4, 24, [.int .i64 0, .int .i64 0, .bool false, .int .u8 0]⟩,
   ⟨(.struct [(0, 2), (1, 3), (2, 4), (3, 6)]), 4, 24, [.int .i64 0, .int .i64 0, .bool false, .int .u8 0]⟩,
   ⟨.str, 1, 16, [.str []]⟩,
   ⟨.str, 1, 16, [.str []]⟩,
   ⟨.str, 1, 16, [.str []]⟩,
   ⟨(.int .u64), 1, 8, [.int .u64 0]⟩,
   ⟨(.struct [(0, 9), (1, 12)]), 2, 24, [.str [], .int .u64 0]⟩,
   ⟨(.struct [(0, 9), (1, 12)]), 2, 24, [.str [], .int .u64 0]⟩,
   ⟨(.ptr 132), 1, 8, [.nilptr]⟩],
  [⟨(.ptr 135), 1, 8, [.nilptr]⟩,
   ⟨(.ptr 145), 1, 8, [.nilptr]⟩,
   ⟨(.struct [(0, 17)]), 1, 8, [.nilptr]⟩,
   ⟨(.struct [(0, 17)]), 1, 8, [.nilptr]⟩,
   ⟨.iface, 1, 16, [.nilif]⟩,
   ⟨(.int .i32), 1, 4, [.int .i32 0]⟩,
   ⟨(.sl 4), 1, 24, [.sl (some true) false []]⟩,
   ⟨(.sl 82), 1, 24, [.sl (some true) false []]⟩,
   ⟨(.struct [(0, 3), (1, 22), (2, 23)]), 3, 56, [.int .i64 0, .sl (some true) false [], .sl (some true) false []]⟩,
   ⟨(.struct [(0, 3), (1, 22), (2, 23)]), 3, 56, [.int .i64 0, .sl (some true) false [], .sl (some true) false []]⟩,
   ⟨(.sl 41), 1, 24, [.sl (some true) false []]⟩,
   ⟨(.sl 37), 1, 24, [.sl (some true) false []]⟩,
   ⟨(.struct [(0, 25), (3, 26), (4, 3), (5, 27)]), 6, 112, [.int .i64 0, .sl (some true) false [], .sl (some true) false [], .sl (some true) false [], .int .i64 0, .sl (some true) false []]⟩,
   ⟨(.struct [(0, 25), (3, 26), (4, 3), (5, 27)]), 6, 112, [.int .i64 0, .sl (some true) false [], .sl (some true) false [], .sl (some true) false [], .int .i64 0, .sl (some true) false []]⟩,
   ⟨.func, 1, 8, [.nilfunc]⟩,
   ⟨.func, 1, 8, [.nilfunc]⟩],
  [⟨(.int .i64), 1, 8, [.int .i64 0]⟩,
   ⟨.other, 0, 0, []⟩,
   ⟨.func, 1, 8, [.nilfunc]⟩,
   ⟨.func, 1, 8, [.nilfunc]⟩,
   ⟨(.struct [(0, 3), (1, 3)]), 2, 16, [.int .i64 0, .int .i64 0]⟩,
   ⟨(.struct [(0, 3), (1, 3)]), 2, 16, [.int .i64 0, .int .i64 0]⟩,
   ⟨.func, 1, 8, [.nilfunc]⟩,
   ⟨.func, 1, 8, [.nilfunc]⟩,
   ⟨(.struct [(0, 3), (1, 3), (2, 27)]), 3, 40, [.int .i64 0, .int .i64 0, .sl (some true) false []]⟩,
   ⟨(.struct [(0, 3), (1, 3), (2, 27)]), 3, 40, [.int .i64 0, .int .i64 0, .sl (some true) false []]⟩,
   ⟨.other, 0, 0, []⟩,
   ⟨.func, 1, 8, [.nilfunc]⟩,
   ⟨.func, 1, 8, [.nilfunc]⟩,
   ⟨(.sl 60), 1, 24, [.sl (some true) false []]⟩,
   ⟨(.sl 3), 1, 24, [.sl (some true) false []]⟩,
   ⟨(.struct [(0, 3), (1, 45), (2, 46)]), 3, 56, [.int .i64 0, .sl (some true) false [], .sl (some true) false []]⟩],
  [⟨(.struct [(0, 3), (1, 45), (2, 46)]), 3, 56, [.int .i64 0, .sl (some true) false [], .sl (some true) false []]⟩,
   ⟨(.struct [(0, 3), (1, 3), (2, 3), (3, 3), (4, 27), (5, 3)]), 6, 64, [.int .i64 0, .int .i64 0, .int .i64 0, .int .i64 0, .sl (some true) false [], .int .i64 0]⟩,
   ⟨(.struct [(0, 3), (1, 3), (2, 3), (3, 3), (4, 27), (5, 3)]), 6, 64, [.int .i64 0, .int .i64 0, .int .i64 0, .int .i64 0, .sl (some true) false [], .int .i64 0]⟩,
   ⟨(.struct [(0, 25), (3, 48), (6, 50)]), 12, 176, [.int .i64 0, .sl (some true) false [], .sl (some true) false [], .int .i64 0, .sl (some true) false [], .sl (some true) false [], .int .i64 0, .int .i64 0, .int .i64 0, .int .i64 0, .sl (some true) false [], .int .i64 0]⟩,
   ⟨(.struct [(0, 25), (3, 48), (6, 50)]), 12, 176, [.int .i64 0, .sl (some true) false [], .sl (some true) false [], .int .i64 0, .sl (some true) false [], .sl (some true) false [], .int .i64 0, .int .i64 0, .int .i64 0, .int .i64 0, .sl (some true) false [], .int .i64 0]⟩,
   ⟨.func, 1, 8, [.nilfunc]⟩,
   ⟨.other, 0, 0, []⟩,
   ⟨.func, 1, 8, [.nilfunc]⟩,
   ⟨.func, 1, 8, [.nilfunc]⟩,
   ⟨.func, 1, 8, [.nilfunc]⟩,
   ⟨.func, 1, 8, [.nilfunc]⟩,
   ⟨(.struct [(0, 46), (1, 4), (2, 27)]), 3, 56, [.sl (some true) false [], .bool false, .sl (some true) false []]⟩,
   ⟨(.struct [(0, 46), (1, 4), (2, 27)]), 3, 56, [.sl (some true) false [], .bool false, .sl (some true) false []]⟩,
   ⟨.func, 1, 8, [.nilfunc]⟩,
   ⟨.func, 1, 8, [.nilfunc]⟩,
   ⟨.func, 1, 8, [.nilfunc]⟩],
  [⟨.func, 1, 8, [.nilfunc]⟩,
   ⟨.func, 1, 8, [.nilfunc]⟩,
   ⟨.func, 1, 8, [.nilfunc]⟩,
   ⟨.func, 1, 8, [.nilfunc]⟩,
   ⟨(.ptr 72), 1, 8, [.nilptr]⟩,
   ⟨(.map 73 27), 1, 8, [.nilmap]⟩,
   ⟨(.map 73 4), 1, 8, [.nilmap]⟩,
   ⟨(.struct [(0, 25), (3, 69), (4, 70), (5, 3), (6, 27)]), 7, 104, [.int .i64 0, .sl (some true) false [], .sl (some true) false [], .nilmap, .nilmap, .int .i64 0, .sl (some true) false []]⟩,
   ⟨(.struct [(0, 25), (3, 69), (4, 70), (5, 3), (6, 27)]), 7, 104, [.int .i64 0, .sl (some true) false [], .sl (some true) false [], .nilmap, .nilmap, .int .i64 0, .sl (some true) false []]⟩,
   ⟨(.arr 2 3), 2, 16, [.int .i64 0, .int .i64 0]⟩,
   ⟨.func, 1, 8, [.nilfunc]⟩,
   ⟨(.struct [(0, 27), (1, 3)]), 2, 32, [.sl (some true) false [], .int .i64 0]⟩,
   ⟨(.struct [(0, 27), (1, 3)]), 2, 32, [.sl (some true) false [], .int .i64 0]⟩,
   ⟨.other, 0, 0, []⟩,
   ⟨.func, 1, 8, [.nilfunc]⟩,
   ⟨.func, 1, 8, [.nilfunc]⟩],
  [⟨.func, 1, 8, [.nilfunc]⟩,
   ⟨(.struct [(0, 3), (1, 3), (2, 73), (4, 3), (5, 3), (6, 3)]), 7, 56, [.int .i64 0, .int .i64 0, .int .i64 0, .int .i64 0, .int .i64 0, .int .i64 0, .int .i64 0]⟩,
   ⟨(.struct [(0, 3), (1, 3), (2, 73), (4, 3), (5, 3), (6, 3)]), 7, 56, [.int .i64 0, .int .i64 0, .int .i64 0, .int .i64 0, .int .i64 0, .int .i64 0, .int .i64 0]⟩,
   ⟨.other, 0, 0, []⟩,
   ⟨.func, 1, 8, [.nilfunc]⟩,
   ⟨.func, 1, 8, [.nilfunc]⟩,
   ⟨.func, 1, 8, [.nilfunc]⟩,
   ⟨.func, 1, 8, [.nilfunc]⟩,
   ⟨.func, 1, 8, [.nilfunc]⟩,
   ⟨.other, 0, 0, []⟩,
   ⟨.func, 1, 8, [.nilfunc]⟩,
   ⟨.func, 1, 8, [.nilfunc]⟩,
   ⟨.func, 1, 8, [.nilfunc]⟩,
   ⟨.func, 1, 8, [.nilfunc]⟩,
   ⟨.func, 1, 8, [.nilfunc]⟩,
   ⟨.func, 1, 8, [.nilfunc]⟩],
  [⟨.func, 1, 8, [.nilfunc]⟩,
   ⟨.func, 1, 8, [.nilfunc]⟩,
   ⟨.func, 1, 8, [.nilfunc]⟩,
   ⟨.func, 1, 8, [.nilfunc]⟩,
   ⟨.func, 1, 8, [.nilfunc]⟩,
   ⟨.other, 0, 0, []⟩,
   ⟨.func, 1, 8, [.nilfunc]⟩,
   ⟨.func, 1, 8, [.nilfunc]⟩,
   ⟨.func, 1, 8, [.nilfunc]⟩,
   ⟨.other, 0, 0, []⟩,
   ⟨.func, 1, 8, [.nilfunc]⟩,
   ⟨.func, 1, 8, [.nilfunc]⟩,
   ⟨(.sl 27), 1, 24, [.sl (some true) false []]⟩,
   ⟨.func, 1, 8, [.nilfunc]⟩,
   ⟨(.sl 9), 1, 24, [.sl (some true) false []]⟩,
   ⟨.other, 0, 0, []⟩],
  [⟨.func, 1, 8, [.nilfunc]⟩,
   ⟨.other, 0, 0, []⟩,
   ⟨.func, 1, 8, [.nilfunc]⟩,
   ⟨(.arr 5 9), 5, 80, [.str [], .str [], .str [], .str [], .str []]⟩,
   ⟨.func, 1, 8, [.nilfunc]⟩,
   ⟨.other, 0, 0, []⟩,
   ⟨.func, 1, 8, [.nilfunc]⟩,
   ⟨.func, 1, 8, [.nilfunc]⟩,
   ⟨.func, 1, 8, [.nilfunc]⟩,
   ⟨.func, 1, 8, [.nilfunc]⟩,
   ⟨.func, 1, 8, [.nilfunc]⟩,
   ⟨.func, 1, 8, [.nilfunc]⟩,
   ⟨(.int .u64), 1, 8, [.int .u64 0]⟩,
   ⟨.func, 1, 8, [.nilfunc]⟩,
   ⟨.func, 1, 8, [.nilfunc]⟩,
   ⟨(.sl 5), 1, 24, [.sl (some true) false []]⟩],
  [⟨.func, 1, 8, [.nilfunc]⟩,
   ⟨.func, 1, 8, [.nilfunc]⟩,
   ⟨.func, 1, 8, [.nilfunc]⟩,
   ⟨(.struct [(0, 17), (1, 17), (2, 17), (3, 9)]), 4, 40, [.nilptr, .nilptr, .nilptr, .str []]⟩,
   ⟨(.struct [(0, 17), (1, 17), (2, 17), (3, 9)]), 4, 40, [.nilptr, .nilptr, .nilptr, .str []]⟩,
   ⟨(.arr 0 16), 0, 0, []⟩,
   ⟨(.struct [(0, 133)]), 0, 0, []⟩,
   ⟨(.struct [(0, 133)]), 0, 0, []⟩,
   ⟨.func, 1, 8, [.nilfunc]⟩,
   ⟨(.int .u32), 1, 4, [.int .u32 0]⟩,
   ⟨(.int .u8), 1, 1, [.int .u8 0]⟩,
   ⟨(.int .u8), 1, 1, [.int .u8 0]⟩,
   ⟨.func, 1, 8, [.nilfunc]⟩,
   ⟨(.ptr 5), 1, 8, [.nilptr]⟩,
   ⟨(.int .i32), 1, 4, [.int .i32 0]⟩,
   ⟨(.int .i32), 1, 4, [.int .i32 0]⟩],
  [⟨(.struct [(0, 12), (1, 12), (2, 137), (3, 138), (4, 5), (5, 5), (6, 139), (7, 140), (8, 141), (9, 142), (10, 143)]), 11, 48, [.int .u64 0, .int .u64 0, .int .u32 0, .int .u8 0, .int .u8 0, .int .u8 0, .int .u8 0, .nilfunc, .nilptr, .int .i32 0, .int .i32 0]⟩,
   ⟨(.struct [(0, 12), (1, 12), (2, 137), (3, 138), (4, 5), (5, 5), (6, 139), (7, 140), (8, 141), (9, 142), (10, 143)]), 11, 48, [.int .u64 0, .int .u64 0, .int .u32 0, .int .u8 0, .int .u8 0, .int .u8 0, .int .u8 0, .nilfunc, .nilptr, .int .i32 0, .int .i32 0]⟩,
   ⟨.other, 1, 8, [.nilptr]⟩]]
def tabN : Nat := 147
set_option maxRecDepth 100000 in
theorem tabOk : ((List.range 160).map fun t => (tiOf Try.prog t).getD ⟨.other, 0, 0, []⟩) = (List.range 160).map (Env.ti { T := TT }) := by kernel_rfl
def EE : Env := { T := TT, eqs := [(36, [.int .i64, .int .i64]), (37, [.int .i64, .int .i64]), (73, [.int .i64, .int .i64]), (81, [.int .i64, .int .i64, .int .i64, .int .i64, .int .i64, .int .i64, .int .i64]), (82, [.int .i64, .int .i64, .int .i64, .int .i64, .int .i64, .int .i64, .int .i64]), (115, [.str, .str, .str, .str, .str])] }
theorem fits : EE.Fits Try.prog := Env.fits 160 (by decide) tabOk
theorem eqok : EE.EqOk Try.prog := Env.eqOk (by kernel_rfl)
theorem step {N : NN} {c : Cfg} {R : Exit → List AV → List VObj → Prop} (h : vrunC EE 500 c (OutHoldsD Try.prog N R)) : RunD Try.prog N c R := run_stepD fits eqok 500 h
abbrev F.law21_PolicyExpand : FuncId := 3
theorem K.law21_PolicyExpand : Known Try.prog 3 Try.f3 := ⟨by kernel_rfl, by kernel_rfl, by kernel_rfl⟩
abbrev F.law21_PolicyAgain : FuncId := 4
theorem K.law21_PolicyAgain : Known Try.prog 4 Try.f4 := ⟨by kernel_rfl, by kernel_rfl, by kernel_rfl⟩
abbrev F.law21_PolicyParts : FuncId := 5
theorem K.law21_PolicyParts : Known Try.prog 5 Try.f5 := ⟨by kernel_rfl, by kernel_rfl, by kernel_rfl⟩
abbrev F.law21_PolicyPlain : FuncId := 6
theorem K.law21_PolicyPlain : Known Try.prog 6 Try.f6 := ⟨by kernel_rfl, by kernel_rfl, by kernel_rfl⟩
abbrev F.law21_PolicyValid : FuncId := 7
theorem K.law21_PolicyValid : Known Try.prog 7 Try.f7 := ⟨by kernel_rfl, by kernel_rfl, by kernel_rfl⟩
abbrev F.law23_ForwardStep : FuncId := 8
theorem K.law23_ForwardStep : Known Try.prog 8 Try.f8 := ⟨by kernel_rfl, by kernel_rfl, by kernel_rfl⟩
abbrev F.law23_ForwardApart : FuncId := 9
theorem K.law23_ForwardApart : Known Try.prog 9 Try.f9 := ⟨by kernel_rfl, by kernel_rfl, by kernel_rfl⟩
abbrev F.law23_ForwardPlain : FuncId := 10
theorem K.law23_ForwardPlain : Known Try.prog 10 Try.f10 := ⟨by kernel_rfl, by kernel_rfl, by kernel_rfl⟩
abbrev F.law23_ForwardReached : FuncId := 11
theorem K.law23_ForwardReached : Known Try.prog 11 Try.f11 := ⟨by kernel_rfl, by kernel_rfl, by kernel_rfl⟩
abbrev F.law23_ForwardBypass : FuncId := 12
theorem K.law23_ForwardBypass : Known Try.prog 12 Try.f12 := ⟨by kernel_rfl, by kernel_rfl, by kernel_rfl⟩
abbrev F.law23_ForwardBounds : FuncId := 13
theorem K.law23_ForwardBounds : Known Try.prog 13 Try.f13 := ⟨by kernel_rfl, by kernel_rfl, by kernel_rfl⟩
abbrev F.law21_awake : FuncId := 14
theorem K.law21_awake : Known Try.prog 14 Try.f14 := ⟨by kernel_rfl, by kernel_rfl, by kernel_rfl⟩
abbrev F.law21_large : FuncId := 15
theorem K.law21_large : Known Try.prog 15 Try.f15 := ⟨by kernel_rfl, by kernel_rfl, by kernel_rfl⟩
abbrev F.law21_heavy : FuncId := 16
theorem K.law21_heavy : Known Try.prog 16 Try.f16 := ⟨by kernel_rfl, by kernel_rfl, by kernel_rfl⟩
abbrev F.policy_Expand : FuncId := 17
theorem K.policy_Expand : Known Try.prog 17 Try.f17 := ⟨by kernel_rfl, by kernel_rfl, by kernel_rfl⟩
abbrev F.ref21_Expand : FuncId := 18
theorem K.ref21_Expand : Known Try.prog 18 Try.f18 := ⟨by kernel_rfl, by kernel_rfl, by kernel_rfl⟩
abbrev F.ref18_Same : FuncId := 19
theorem K.ref18_Same : Known Try.prog 19 Try.f19 := ⟨by kernel_rfl, by kernel_rfl, by kernel_rfl⟩
abbrev F.ref21_Valid : FuncId := 20
theorem K.ref21_Valid : Known Try.prog 20 Try.f20 := ⟨by kernel_rfl, by kernel_rfl, by kernel_rfl⟩
abbrev F.policy_Find : FuncId := 21
theorem K.policy_Find : Known Try.prog 21 Try.f21 := ⟨by kernel_rfl, by kernel_rfl, by kernel_rfl⟩
abbrev F.ref21_Find : FuncId := 22
theorem K.ref21_Find : Known Try.prog 22 Try.f22 := ⟨by kernel_rfl, by kernel_rfl, by kernel_rfl⟩
abbrev F.policy_Valid : FuncId := 23
theorem K.policy_Valid : Known Try.prog 23 Try.f23 := ⟨by kernel_rfl, by kernel_rfl, by kernel_rfl⟩
abbrev F.ref21_SamePolicy : FuncId := 24
theorem K.ref21_SamePolicy : Known Try.prog 24 Try.f24 := ⟨by kernel_rfl, by kernel_rfl, by kernel_rfl⟩
abbrev F.law23_awake : FuncId := 25
theorem K.law23_awake : Known Try.prog 25 Try.f25 := ⟨by kernel_rfl, by kernel_rfl, by kernel_rfl⟩
abbrev F.law23_large : FuncId := 26
theorem K.law23_large : Known Try.prog 26 Try.f26 := ⟨by kernel_rfl, by kernel_rfl, by kernel_rfl⟩
abbrev F.forward_Step : FuncId := 27
theorem K.forward_Step : Known Try.prog 27 Try.f27 := ⟨by kernel_rfl, by kernel_rfl, by kernel_rfl⟩
abbrev F.ref23_Step : FuncId := 28
theorem K.ref23_Step : Known Try.prog 28 Try.f28 := ⟨by kernel_rfl, by kernel_rfl, by kernel_rfl⟩
abbrev F.ref09_SameInts : FuncId := 29
theorem K.ref09_SameInts : Known Try.prog 29 Try.f29 := ⟨by kernel_rfl, by kernel_rfl, by kernel_rfl⟩
abbrev F.ref23_Same : FuncId := 30
theorem K.ref23_Same : Known Try.prog 30 Try.f30 := ⟨by kernel_rfl, by kernel_rfl, by kernel_rfl⟩
abbrev F.ref22_Valid : FuncId := 31
theorem K.ref22_Valid : Known Try.prog 31 Try.f31 := ⟨by kernel_rfl, by kernel_rfl, by kernel_rfl⟩
abbrev F.ref09_Has : FuncId := 32
theorem K.ref09_Has : Known Try.prog 32 Try.f32 := ⟨by kernel_rfl, by kernel_rfl, by kernel_rfl⟩
abbrev F.ref09_Tail : FuncId := 33
theorem K.ref09_Tail : Known Try.prog 33 Try.f33 := ⟨by kernel_rfl, by kernel_rfl, by kernel_rfl⟩
abbrev F.law21_list : FuncId := 34
theorem K.law21_list : Known Try.prog 34 Try.f34 := ⟨by kernel_rfl, by kernel_rfl, by kernel_rfl⟩
abbrev F.law21_line : FuncId := 35
theorem K.law21_line : Known Try.prog 35 Try.f35 := ⟨by kernel_rfl, by kernel_rfl, by kernel_rfl⟩
abbrev F.ref18_TextList : FuncId := 36
theorem K.ref18_TextList : Known Try.prog 36 Try.f36 := ⟨by kernel_rfl, by kernel_rfl, by kernel_rfl⟩
abbrev F.policy_proper : FuncId := 37
theorem K.policy_proper : Known Try.prog 37 Try.f37 := ⟨by kernel_rfl, by kernel_rfl, by kernel_rfl⟩
abbrev F.policy_expansion_list : FuncId := 38
theorem K.policy_expansion_list : Known Try.prog 38 Try.f38 := ⟨by kernel_rfl, by kernel_rfl, by kernel_rfl⟩
abbrev F.ref21_proper : FuncId := 39
theorem K.ref21_proper : Known Try.prog 39 Try.f39 := ⟨by kernel_rfl, by kernel_rfl, by kernel_rfl⟩
abbrev F.ref21_all : FuncId := 40
theorem K.ref21_all : Known Try.prog 40 Try.f40 := ⟨by kernel_rfl, by kernel_rfl, by kernel_rfl⟩
abbrev F.ref09_Valid : FuncId := 41
theorem K.ref09_Valid : Known Try.prog 41 Try.f41 := ⟨by kernel_rfl, by kernel_rfl, by kernel_rfl⟩
abbrev F.ref21_index : FuncId := 42
theorem K.ref21_index : Known Try.prog 42 Try.f42 := ⟨by kernel_rfl, by kernel_rfl, by kernel_rfl⟩
abbrev F.topology_Valid : FuncId := 43
theorem K.topology_Valid : Known Try.prog 43 Try.f43 := ⟨by kernel_rfl, by kernel_rfl, by kernel_rfl⟩
abbrev F.ref22_Routes : FuncId := 44
theorem K.ref22_Routes : Known Try.prog 44 Try.f44 := ⟨by kernel_rfl, by kernel_rfl, by kernel_rfl⟩
abbrev F.law23_awake_1 : FuncId := 45
theorem K.law23_awake_1 : Known Try.prog 45 Try.f45 := ⟨by kernel_rfl, by kernel_rfl, by kernel_rfl⟩
abbrev F.law23_list : FuncId := 46
theorem K.law23_list : Known Try.prog 46 Try.f46 := ⟨by kernel_rfl, by kernel_rfl, by kernel_rfl⟩
abbrev F.table_Valid : FuncId := 47
theorem K.table_Valid : Known Try.prog 47 Try.f47 := ⟨by kernel_rfl, by kernel_rfl, by kernel_rfl⟩
abbrev F.slices_Clone_Segment : FuncId := 48
theorem K.slices_Clone_Segment : Known Try.prog 48 Try.f48 := ⟨by kernel_rfl, by kernel_rfl, by kernel_rfl⟩
abbrev F.topology_Tail : FuncId := 49
theorem K.topology_Tail : Known Try.prog 49 Try.f49 := ⟨by kernel_rfl, by kernel_rfl, by kernel_rfl⟩
abbrev F.slices_Contains_int : FuncId := 50
theorem K.slices_Contains_int : Known Try.prog 50 Try.f50 := ⟨by kernel_rfl, by kernel_rfl, by kernel_rfl⟩
abbrev F.slices_Concat_Segment : FuncId := 51
theorem K.slices_Concat_Segment : Known Try.prog 51 Try.f51 := ⟨by kernel_rfl, by kernel_rfl, by kernel_rfl⟩
abbrev F.slices_Clone_int : FuncId := 52
theorem K.slices_Clone_int : Known Try.prog 52 Try.f52 := ⟨by kernel_rfl, by kernel_rfl, by kernel_rfl⟩
abbrev F.ref23_Route : FuncId := 53
theorem K.ref23_Route : Known Try.prog 53 Try.f53 := ⟨by kernel_rfl, by kernel_rfl, by kernel_rfl⟩
abbrev F.ref22_outgoing : FuncId := 54
theorem K.ref22_outgoing : Known Try.prog 54 Try.f54 := ⟨by kernel_rfl, by kernel_rfl, by kernel_rfl⟩
abbrev F.ref18_Valid : FuncId := 55
theorem K.ref18_Valid : Known Try.prog 55 Try.f55 := ⟨by kernel_rfl, by kernel_rfl, by kernel_rfl⟩
abbrev F.ref09_Arcs : FuncId := 56
theorem K.ref09_Arcs : Known Try.prog 56 Try.f56 := ⟨by kernel_rfl, by kernel_rfl, by kernel_rfl⟩
abbrev F.ref18_ParseList : FuncId := 57
theorem K.ref18_ParseList : Known Try.prog 57 Try.f57 := ⟨by kernel_rfl, by kernel_rfl, by kernel_rfl⟩
abbrev F.ref18_Text : FuncId := 58
theorem K.ref18_Text : Known Try.prog 58 Try.f58 := ⟨by kernel_rfl, by kernel_rfl, by kernel_rfl⟩
abbrev F.segment_Valid : FuncId := 59
theorem K.segment_Valid : Known Try.prog 59 Try.f59 := ⟨by kernel_rfl, by kernel_rfl, by kernel_rfl⟩
abbrev F.policy_expansion_segment : FuncId := 60
theorem K.policy_expansion_segment : Known Try.prog 60 Try.f60 := ⟨by kernel_rfl, by kernel_rfl, by kernel_rfl⟩
abbrev F.ref21_one : FuncId := 61
theorem K.ref21_one : Known Try.prog 61 Try.f61 := ⟨by kernel_rfl, by kernel_rfl, by kernel_rfl⟩
abbrev F.ref09_within : FuncId := 62
theorem K.ref09_within : Known Try.prog 62 Try.f62 := ⟨by kernel_rfl, by kernel_rfl, by kernel_rfl⟩
abbrev F.topology_inside : FuncId := 63
theorem K.topology_inside : Known Try.prog 63 Try.f63 := ⟨by kernel_rfl, by kernel_rfl, by kernel_rfl⟩
abbrev F.topology_proper : FuncId := 64
theorem K.topology_proper : Known Try.prog 64 Try.f64 := ⟨by kernel_rfl, by kernel_rfl, by kernel_rfl⟩
abbrev F.ref11_Fits : FuncId := 65
theorem K.ref11_Fits : Known Try.prog 65 Try.f65 := ⟨by kernel_rfl, by kernel_rfl, by kernel_rfl⟩
abbrev F.ref12_Next : FuncId := 66
theorem K.ref12_Next : Known Try.prog 66 Try.f66 := ⟨by kernel_rfl, by kernel_rfl, by kernel_rfl⟩
abbrev F.ref09_Out : FuncId := 67
theorem K.ref09_Out : Known Try.prog 67 Try.f67 := ⟨by kernel_rfl, by kernel_rfl, by kernel_rfl⟩
abbrev F.ref11_Up : FuncId := 68
theorem K.ref11_Up : Known Try.prog 68 Try.f68 := ⟨by kernel_rfl, by kernel_rfl, by kernel_rfl⟩
abbrev F.topology_Out : FuncId := 69
theorem K.topology_Out : Known Try.prog 69 Try.f69 := ⟨by kernel_rfl, by kernel_rfl, by kernel_rfl⟩
abbrev F.table_outgoing : FuncId := 70
theorem K.table_outgoing : Known Try.prog 70 Try.f70 := ⟨by kernel_rfl, by kernel_rfl, by kernel_rfl⟩
abbrev F.topology_ends : FuncId := 71
theorem K.topology_ends : Known Try.prog 71 Try.f71 := ⟨by kernel_rfl, by kernel_rfl, by kernel_rfl⟩
abbrev F.slices_Index_int : FuncId := 72
theorem K.slices_Index_int : Known Try.prog 72 Try.f72 := ⟨by kernel_rfl, by kernel_rfl, by kernel_rfl⟩
abbrev F.slices_Grow_Segment : FuncId := 73
theorem K.slices_Grow_Segment : Known Try.prog 73 Try.f73 := ⟨by kernel_rfl, by kernel_rfl, by kernel_rfl⟩
abbrev F.ref09_Split : FuncId := 74
theorem K.ref09_Split : Known Try.prog 74 Try.f74 := ⟨by kernel_rfl, by kernel_rfl, by kernel_rfl⟩
abbrev F.ref18_Parse : FuncId := 75
theorem K.ref18_Parse : Known Try.prog 75 Try.f75 := ⟨by kernel_rfl, by kernel_rfl, by kernel_rfl⟩
abbrev F.ref09_Number : FuncId := 76
theorem K.ref09_Number : Known Try.prog 76 Try.f76 := ⟨by kernel_rfl, by kernel_rfl, by kernel_rfl⟩
abbrev F.policy_expansion_keep : FuncId := 77
theorem K.policy_expansion_keep : Known Try.prog 77 Try.f77 := ⟨by kernel_rfl, by kernel_rfl, by kernel_rfl⟩
abbrev F.topology_Head : FuncId := 78
theorem K.topology_Head : Known Try.prog 78 Try.f78 := ⟨by kernel_rfl, by kernel_rfl, by kernel_rfl⟩
abbrev F.ref21_state_keep : FuncId := 79
theorem K.ref21_state_keep : Known Try.prog 79 Try.f79 := ⟨by kernel_rfl, by kernel_rfl, by kernel_rfl⟩
abbrev F.ref09_Head : FuncId := 80
theorem K.ref09_Head : Known Try.prog 80 Try.f80 := ⟨by kernel_rfl, by kernel_rfl, by kernel_rfl⟩
abbrev F.ref11_Dist : FuncId := 81
theorem K.ref11_Dist : Known Try.prog 81 Try.f81 := ⟨by kernel_rfl, by kernel_rfl, by kernel_rfl⟩
abbrev F.ref12_next : FuncId := 82
theorem K.ref12_next : Known Try.prog 82 Try.f82 := ⟨by kernel_rfl, by kernel_rfl, by kernel_rfl⟩
abbrev F.topology_arcs : FuncId := 83
theorem K.topology_arcs : Known Try.prog 83 Try.f83 := ⟨by kernel_rfl, by kernel_rfl, by kernel_rfl⟩
abbrev F.topology_Arcs : FuncId := 84
theorem K.topology_Arcs : Known Try.prog 84 Try.f84 := ⟨by kernel_rfl, by kernel_rfl, by kernel_rfl⟩
abbrev F.ref09_Value : FuncId := 85
theorem K.ref09_Value : Known Try.prog 85 Try.f85 := ⟨by kernel_rfl, by kernel_rfl, by kernel_rfl⟩
abbrev F.ref09_digits : FuncId := 86
theorem K.ref09_digits : Known Try.prog 86 Try.f86 := ⟨by kernel_rfl, by kernel_rfl, by kernel_rfl⟩
abbrev F.ref11_search : FuncId := 87
theorem K.ref11_search : Known Try.prog 87 Try.f87 := ⟨by kernel_rfl, by kernel_rfl, by kernel_rfl⟩
abbrev F.ref11_On : FuncId := 88
theorem K.ref11_On : Known Try.prog 88 Try.f88 := ⟨by kernel_rfl, by kernel_rfl, by kernel_rfl⟩
abbrev F.ref11_transit : FuncId := 89
theorem K.ref11_transit : Known Try.prog 89 Try.f89 := ⟨by kernel_rfl, by kernel_rfl, by kernel_rfl⟩
abbrev F.ref09_Cost : FuncId := 90
theorem K.ref09_Cost : Known Try.prog 90 Try.f90 := ⟨by kernel_rfl, by kernel_rfl, by kernel_rfl⟩
abbrev F.ref09_Overloaded : FuncId := 91
theorem K.ref09_Overloaded : Known Try.prog 91 Try.f91 := ⟨by kernel_rfl, by kernel_rfl, by kernel_rfl⟩
end Go.Proofs.Ytmapiefbnjaikaa.Vm
/- The values that the statements speak of, as plain data, and their cells. -/
set_option linter.all false
namespace Go.Proofs.Ytmapiefbnjaikaa.Vm
open Go

/-- a whole number of 64 bits -/
def i64 (n : Int) : Prop := -9223372036854775808 ≤ n ∧ n ≤ 9223372036854775807
theorem wrap_in {n : Int} (h : -9223372036854775808 ≤ n ∧ n ≤ 9223372036854775807) : IntKind.i64.wrap n = n := by rw [IntKind.wrap_i64]; omega
abbrev ai (n : Int) : AV := .int .i64 n
abbrev asl (es : List (List AV)) : AV := .sl none false es

structure Link where
  a : Int
  b : Int
  c0 : Int
  c1 : Int
  cap : Int
  delay : Int
  group : Int
  deriving DecidableEq, Inhabited
def Link.enc (l : Link) : List AV := [ai l.a, ai l.b, ai l.c0, ai l.c1, ai l.cap, ai l.delay, ai l.group]
structure Topology where
  nodes : Int
  overload : List Bool
  links : List Link
  deriving DecidableEq, Inhabited
def eBool (b : Bool) : List AV := [.bool b]
def eInt (n : Int) : List AV := [ai n]
def Topology.enc (t : Topology) : List AV := [ai t.nodes, asl (t.overload.map eBool), asl (t.links.map Link.enc)]
structure Segment where
  kind : Int
  num : Int
  deriving DecidableEq, Inhabited
def Segment.enc (s : Segment) : List AV := [ai s.kind, ai s.num]
structure Policy where
  node : Int
  binding : Int
  list : List Segment
  deriving DecidableEq, Inhabited
def Policy.enc (p : Policy) : List AV := [ai p.node, ai p.binding, asl (p.list.map Segment.enc)]
structure Query where
  t : Topology
  policies : List Policy
  node : Int
  list : List Segment
  deriving DecidableEq, Inhabited
def Query.enc (q : Query) : List AV := q.t.enc ++ [asl (q.policies.map Policy.enc), ai q.node, asl (q.list.map Segment.enc)]

/-- a number of a list's element -/
theorem idx_nat {α : Type} {enc : α → List AV} {xs : List α} {i : Nat} {n : Nat} {R : List AV → Prop} (hi : i < xs.length) (hl : (enc xs[i]).length = n) (h : R (enc xs[i])) :
    True ∧ 0 ≤ (i : Int) ∧ ∃ c, (xs.map enc)[(i : Int).toNat]? = some c ∧ c.length = n ∧ R c :=
  ⟨trivial, by omega, _, by simp [hi], hl, h⟩
theorem idx_int {α : Type} {enc : α → List AV} {xs : List α} {i : Int} {j : Nat} {n : Nat} {R : List AV → Prop} (hij : i = (j : Int)) (hi : j < xs.length) (hl : (enc xs[j]).length = n) (h : R (enc xs[j])) :
    True ∧ 0 ≤ i ∧ ∃ c, (xs.map enc)[i.toNat]? = some c ∧ c.length = n ∧ R c := by
  subst hij; exact idx_nat hi hl h

theorem all_take_succ {α : Type} {p : α → Bool} {l : List α} {i : Nat} (hi : i < l.length) (h : ∀ x ∈ l.take i, p x = true) (hp : p l[i] = true) : ∀ x ∈ l.take (i + 1), p x = true := by
  intro x hx
  rw [List.take_succ_eq_append_getElem hi, List.mem_append] at hx
  rcases hx with hx | hx
  · exact h x hx
  · simp at hx; subst hx; exact hp
theorem all_false {α : Type} {p : α → Bool} {l : List α} {i : Nat} (hi : i < l.length) (hp : p l[i] = false) : l.all p = false := by
  rw [List.all_eq_false]; exact ⟨l[i], List.getElem_mem hi, by simp [hp]⟩
theorem all_true {α : Type} {p : α → Bool} {l : List α} {i : Nat} (hi : l.length ≤ i) (h : ∀ x ∈ l.take i, p x = true) : l.all p = true := by
  rw [List.take_of_length_le hi] at h; exact List.all_eq_true.2 h

theorem wrap_succ {i : Nat} (h : i < 4611686018427387904) : IntKind.i64.wrap ((i : Int) + 1) = ((i + 1 : Nat) : Int) := by rw [IntKind.wrap_i64]; omega

/- Maps with pairs of numbers as keys. -/
def eKey (k : Int × Int) : AV := .agg [ai k.1, ai k.2]
abbrev ks2 : Bool × List LK := (true, [.int .i64, .int .i64])
def eMap {β : Type} (f : β → AV) (l : List ((Int × Int) × β)) : List (AV × AV) := l.map fun p => (eKey p.1, f p.2)
theorem eqKey2 (k k' : Int × Int) : eqKey ks2 (eKey k) (eKey k') = some (decide (k = k')) := by
  show some (decide (k.1 = k'.1) && (decide (k.2 = k'.2) && true)) = _
  obtain ⟨a, b⟩ := k
  obtain ⟨c, d⟩ := k'
  simp [Bool.decide_and]
theorem hasKs2 {β : Type} (k : Int × Int) (f : β → AV) (l : List ((Int × Int) × β)) : hasKs ks2 (eKey k) (eMap f l) := by
  refine ⟨by rw [eqKey2]; rfl, fun e he => ?_⟩
  obtain ⟨x, _, rfl⟩ := List.mem_map.1 he
  rw [eqKey2]; rfl
theorem findK2 {β : Type} (k : Int × Int) (f : β → AV) (l : List ((Int × Int) × β)) : findK ks2 (eKey k) (eMap f l) = (l.lookup k).map f := by
  induction l with
  | nil => rfl
  | cons p l ih =>
    obtain ⟨k', v⟩ := p
    show (match eqKey ks2 (eKey k) (eKey k') with | some true => some (f v) | _ => findK ks2 (eKey k) (eMap f l)) = _
    rw [eqKey2, List.lookup_cons]
    by_cases h : k = k'
    · subst h; simp
    · have : (k == k') = false := by simp [h]
      simp only [h, decide_false, this]
      exact ih
theorem look2 {β : Type} (k : Int × Int) (f : β → AV) (l : List ((Int × Int) × β)) {R : Option AV → Prop} (h0 : l.lookup k = none → R none) (h1 : ∀ b, l.lookup k = some b → R (some (f b))) :
    hasKs ks2 (eKey k) (eMap f l) ∧ ∃ q, findK ks2 (eKey k) (eMap f l) = q ∧ R q := by
  refine ⟨hasKs2 k f l, _, findK2 k f l, ?_⟩
  cases h : l.lookup k with
  | none => exact h0 h
  | some b => exact h1 b h
theorem putM2 {β : Type} (k : Int × Int) (f : β → AV) (v : β) (l : List ((Int × Int) × β)) (h : l.lookup k = none) : putM ks2 (eKey k) (f v) (eMap f l) = eMap f (l ++ [(k, v)]) := by
  induction l with
  | nil => rfl
  | cons p l ih =>
    obtain ⟨k', v'⟩ := p
    rw [List.lookup_cons] at h
    have hk : ¬ k = k' := fun e => by subst e; simp at h
    have hb : (k == k') = false := by simp [hk]
    rw [hb] at h
    show (match eqKey ks2 (eKey k) (eKey k') with | some true => (eKey k, f v) :: eMap f l | _ => (eKey k', f v') :: putM ks2 (eKey k) (f v) (eMap f l)) = _
    rw [eqKey2]
    simp only [hk, decide_false]
    rw [ih h]; rfl
theorem delM2 {β : Type} (k : Int × Int) (f : β → AV) (v : β) (l : List ((Int × Int) × β)) (h : l.lookup k = none) : delM ks2 (eKey k) (eMap f (l ++ [(k, v)])) = eMap f l := by
  induction l with
  | nil =>
    show (match eqKey ks2 (eKey k) (eKey k) with | some true => [] | _ => _) = _
    rw [eqKey2]; simp; rfl
  | cons p l ih =>
    obtain ⟨k', v'⟩ := p
    rw [List.lookup_cons] at h
    have hk : ¬ k = k' := fun e => by subst e; simp at h
    have hb : (k == k') = false := by simp [hk]
    rw [hb] at h
    show (match eqKey ks2 (eKey k) (eKey k') with | some true => eMap f (l ++ [(k, v)]) | _ => (eKey k', f v') :: delM ks2 (eKey k) (eMap f (l ++ [(k, v)]))) = _
    rw [eqKey2]
    simp only [hk, decide_false]
    rw [ih h]; rfl
theorem lookup_none {β : Type} {k : Int × Int} {l : List ((Int × Int) × β)} : l.lookup k = none ↔ k ∉ l.map (·.1) := by
  induction l with
  | nil => simp
  | cons p l ih =>
    obtain ⟨k', v⟩ := p
    rw [List.lookup_cons]
    by_cases h : k = k'
    · subst h; simp
    · have : (k == k') = false := by simp [h]
      rw [this]; simp [ih, h]

end Go.Proofs.Ytmapiefbnjaikaa.Vm
/- Data: what the readings of a query's arguments say. -/
set_option linter.all false
namespace Go.Proofs.Ytmapiefbnjaikaa.Vm
open Go Go.ChangeShapes Go.WideShapes Go.ChangeAt Go.RowKit Go.Proofs.Ytmapiefbnjaikaa
set_option maxRecDepth 100000
theorem sum_bulk {H : Type} : ∀ (l : List (DataW H)), (l.map (Rows.uptoBulk (H := H))).sum = Rows.uptoBulkAll l := by
  intro l; induction l with
  | nil => simp [Rows.uptoBulkAll]
  | cons x l ih => simp [Rows.uptoBulkAll, ih]
theorem uok : UOk (fun H => Rows.uptoBulk (H := H)) where
  str H b := by simp [Rows.uptoBulk]
  lit H l := by cases l <;> simp [Rows.uptoBulk]
  nil H := by simp [Rows.uptoBulk]
  slice H es sp := by simp [Rows.uptoBulk, sum_bulk]
  agg H ps := by simp [Rows.uptoBulk, sum_bulk]
theorem ownKn : ownKnob Try.prog.godebug = none := by kernel_rfl
abbrev UB : (H : Type) → DataW H → Nat := fun H => Rows.uptoBulk (H := H)
def okAny (α : Type) : α → Prop := fun _ => True
def bulk0 (α : Type) : α → Nat := fun _ => 0

/-- a struct's fields, as far as they matter -/
def fldsOf (P : Program) (t : TypeId) : Option (List (TypeId × Nat)) := match P.underlying t with
  | some (.struct fs) => some (fs.toList.map fun f => (f.type, f.offset))
  | _ => none
def fld (x : TypeId × Nat) : Field := ⟨ "", x.1, x.2, false, "", "", 0⟩
theorem OpensF.congr {P : Program} {U : (H : Type) → DataW H → Nat} {fs fs' : List Field} {o : Nat} {β : Type} {n : Nat} {enc : β → List AV} {ok : β → Prop} {bulk : β → Nat} (h : OpensF P U fs' o β n enc ok bulk) (he : fs.map (fun f => (f.type, f.offset)) = fs'.map fun f => (f.type, f.offset)) : OpensF P U fs o β n enc ok bulk where
  len := h.len
  pure := h.pure
  op eh w base held m cs xs h1 h2 h3 hwt := by
    have ht : fs.map (·.type) = fs'.map (·.type) := by
      have := congrArg (List.map Prod.fst) he
      rw [List.map_map, List.map_map] at this
      exact this
    rw [ht] at hwt
    refine h.op eh w base held m cs xs h1 (by rw [h2, ← List.length_map (f := fun f : Field => (f.type, f.offset)), he, List.length_map]) (fun i f hf => ?_) hwt
    have := congrArg (fun l : List (TypeId × Nat) => l[i]?) he
    simp only [List.getElem?_map, hf, Option.map_some, Option.map_eq_some_iff, Prod.mk.injEq] at this
    obtain ⟨f', q1, q2, q3⟩ := this
    have := h3 i f' q1
    rw [q2, q3] at this
    exact this
theorem opens_flds {P : Program} {U : (H : Type) → DataW H → Nat} (hU : UOk U) {t : TypeId} {l : List (TypeId × Nat)} {β : Type} {n : Nat} {enc : β → List AV} {ok : β → Prop} {bulk : β → Nat} (ht : fldsOf P t = some l) (hc : P.cellsOf t = n) (h0 : 0 < n)
    (h : OpensF P U (l.map fld) 0 β n enc ok bulk) : Opens P U t β n enc ok (fun x => bulk x + 1) := by
  unfold fldsOf at ht
  split at ht
  · rename_i fs hfs
    refine opens_struct hU hfs hc h0 (h.congr ?_)
    cases ht
    rw [List.map_map]
    exact (List.map_id _).symm
  · exact nomatch ht
theorem struct_flds {P : Program} {t : TypeId} {l : List (TypeId × Nat)} (ht : fldsOf P t = some l) : ∃ fs, P.underlying t = some (.struct fs) := by
  unfold fldsOf at ht
  split at ht
  · rename_i fs hfs; exact ⟨fs, hfs⟩
  · exact nomatch ht

theorem o_int : Opens Try.prog UB 3 Int 1 (fun n => [.int .i64 n]) (okAny _) (bulk0 _) := (opens_int uok (k := .i64) (by kernel_rfl) (by kernel_rfl)).map id (fun _ => rfl) (fun y a h => by simp at h; subst h; rfl) (fun _ => rfl) (fun _ _ => trivial) (fun _ => Nat.zero_le _)
theorem o_bool : Opens Try.prog UB 4 Bool 1 (fun b => [.bool b]) (fun _ => True) (fun _ => 1) := opens_bool uok (by kernel_rfl) (by kernel_rfl)
theorem o_cost : Opens Try.prog UB 73 (Int × Int) 2 (fun x => [.int .i64 x.1] ++ [.int .i64 x.2]) (okAny _) (bulk0 _) := (opens_two uok (e := 3) (by kernel_rfl) (by kernel_rfl) o_int).map id (fun _ => rfl) (fun y a h => by simp at h; rcases h with rfl | rfl <;> rfl) (fun _ => rfl) (fun _ _ => trivial) (fun _ => Nat.zero_le _)
theorem o_link : Opens Try.prog UB 82 Link 7 Link.enc (okAny _) (bulk0 _) :=
  (opens_flds uok (l := [(3, 0), (3, 1), (73, 2), (3, 4), (3, 5), (3, 6)]) (by kernel_rfl) (by kernel_rfl) (by decide)
    (opens_cons (f := fld (3, 0)) o_int (opens_cons (f := fld (3, 1)) o_int (opens_cons (f := fld (73, 2)) o_cost (opens_cons (f := fld (3, 4)) o_int (opens_cons (f := fld (3, 5)) o_int (opens_cons (f := fld (3, 6)) o_int opens_nil))))))).map
    (fun x => ⟨x.1, x.2.1, x.2.2.1.1, x.2.2.1.2, x.2.2.2.1, x.2.2.2.2.1, x.2.2.2.2.2.1⟩) (fun _ => rfl) (fun y a h => by
      simp only [Link.enc, List.mem_cons, List.mem_nil_iff, or_false] at h; rcases h with rfl | rfl | rfl | rfl | rfl | rfl | rfl <;> rfl) (fun _ => rfl) (fun _ _ => trivial) (fun _ => Nat.zero_le _)
theorem o_list {t e : TypeId} {α : Type} {n : Nat} {enc : α → List AV} (ht : Try.prog.underlying t = some (.slice e)) (hc : Try.prog.cellsOf t = 1) (h : Opens Try.prog UB e α n enc (okAny _) (bulk0 _)) :
    Opens Try.prog UB t (List α) 1 (fun xs => [asl (xs.map enc)]) (okAny _) (bulk0 _) :=
  (opens_slice uok ht hc h).map id (fun _ => rfl) (fun y a h => by simp at h; subst h; rfl) (fun _ => rfl) (fun _ _ => trivial) (fun _ => Nat.zero_le _)
theorem o_bools : Opens Try.prog UB 22 (List Bool) 1 (fun xs => [asl (xs.map eBool)]) (okAny _) (bulk0 _) := o_list (by kernel_rfl) (by kernel_rfl) (o_bool.map id (enc' := eBool) (fun _ => rfl) (fun y a h => by simp [eBool] at h; subst h; rfl) (fun _ => rfl) (fun _ _ => trivial) (fun _ => Nat.zero_le _))
theorem o_links : Opens Try.prog UB 23 (List Link) 1 (fun xs => [asl (xs.map Link.enc)]) (okAny _) (bulk0 _) := o_list (by kernel_rfl) (by kernel_rfl) o_link
theorem o_topology : Opens Try.prog UB 25 Topology 3 Topology.enc (okAny _) (bulk0 _) :=
  (opens_flds uok (l := [(3, 0), (22, 1), (23, 2)]) (by kernel_rfl) (by kernel_rfl) (by decide)
    (opens_cons (f := fld (3, 0)) o_int (opens_cons (f := fld (22, 1)) o_bools (opens_cons (f := fld (23, 2)) o_links opens_nil)))).map
    (fun x => ⟨x.1, x.2.1, x.2.2.1⟩) (fun _ => rfl) (fun y a h => by
      simp only [Topology.enc, List.mem_cons, List.mem_nil_iff, or_false] at h; rcases h with rfl | rfl | rfl <;> rfl) (fun _ => rfl) (fun _ _ => trivial) (fun _ => Nat.zero_le _)
theorem o_segment : Opens Try.prog UB 37 Segment 2 Segment.enc (okAny _) (bulk0 _) :=
  (opens_flds uok (l := [(3, 0), (3, 1)]) (by kernel_rfl) (by kernel_rfl) (by decide)
    (opens_cons (f := fld (3, 0)) o_int (opens_cons (f := fld (3, 1)) o_int opens_nil))).map
    (fun x => ⟨x.1, x.2.1⟩) (fun _ => rfl) (fun y a h => by
      simp only [Segment.enc, List.mem_cons, List.mem_nil_iff, or_false] at h; rcases h with rfl | rfl <;> rfl) (fun _ => rfl) (fun _ _ => trivial) (fun _ => Nat.zero_le _)
theorem o_segments : Opens Try.prog UB 27 (List Segment) 1 (fun xs => [asl (xs.map Segment.enc)]) (okAny _) (bulk0 _) := o_list (by kernel_rfl) (by kernel_rfl) o_segment
theorem o_policy : Opens Try.prog UB 41 Policy 3 Policy.enc (okAny _) (bulk0 _) :=
  (opens_flds uok (l := [(3, 0), (3, 1), (27, 2)]) (by kernel_rfl) (by kernel_rfl) (by decide)
    (opens_cons (f := fld (3, 0)) o_int (opens_cons (f := fld (3, 1)) o_int (opens_cons (f := fld (27, 2)) o_segments opens_nil)))).map
    (fun x => ⟨x.1, x.2.1, x.2.2.1⟩) (fun _ => rfl) (fun y a h => by
      simp only [Policy.enc, List.mem_cons, List.mem_nil_iff, or_false] at h; rcases h with rfl | rfl | rfl <;> rfl) (fun _ => rfl) (fun _ _ => trivial) (fun _ => Nat.zero_le _)
theorem o_policies : Opens Try.prog UB 26 (List Policy) 1 (fun xs => [asl (xs.map Policy.enc)]) (okAny _) (bulk0 _) := o_list (by kernel_rfl) (by kernel_rfl) o_policy
theorem o_query : Opens Try.prog UB 29 Query 6 Query.enc (okAny _) (bulk0 _) :=
  (opens_flds uok (l := [(25, 0), (26, 3), (3, 4), (27, 5)]) (by kernel_rfl) (by kernel_rfl) (by decide)
    (opens_cons (f := fld (25, 0)) o_topology (opens_cons (f := fld (26, 3)) o_policies (opens_cons (f := fld (3, 4)) o_int (opens_cons (f := fld (27, 5)) o_segments opens_nil))))).map
    (fun x => ⟨x.1, x.2.1, x.2.2.1, x.2.2.2.1⟩) (fun _ => rfl) (fun y a h => by
      simp only [Query.enc, Topology.enc, List.cons_append, List.nil_append, List.mem_cons, List.mem_nil_iff, or_false] at h; rcases h with rfl | rfl | rfl | rfl | rfl | rfl <;> rfl) (fun _ => rfl) (fun _ _ => trivial) (fun _ => Nat.zero_le _)
end Go.Proofs.Ytmapiefbnjaikaa.Vm
/- From contracts to rows. -/
set_option linter.all false
namespace Go.Proofs.Ytmapiefbnjaikaa.Vm
open Go Go.ChangeShapes Go.WideShapes Go.ChangeAt Go.RowKit Go.Proofs.Ytmapiefbnjaikaa
set_option maxRecDepth 100000
theorem laid : laidOutB Try.prog = true := by kernel_rfl
/-- a row's contract: one struct -/
theorem row1 {fn : Func} {fid : FuncId} {s : ChangeSpec} {α : Type} {n : Nat} {enc : α → List AV} {t : TypeId} {l : List (TypeId × Nat)} (hO : Opens Try.prog UB t α n enc (okAny _) (bulk0 _)) (hl : fldsOf Try.prog t = some l)
    (hp : ∀ x, PureCall Try.prog fid [.agg (enc x)] (.bool true)) (hpar : fn.params = #[t]) (hrd : Try.prog.readableRec t = true ∧ t < Try.prog.types.size) (hvars : s.vars = []) (hspec : ∀ (H : Type) (d : DataW H), s.fn H [d] = { results := [.lit (.bool true)], args := [d] }) (hrt : fn.resultTypes = #[4])
    (H : Type) (eh : TypeId × Value → H) (W : World) (base : Nat) (args : Array Value) (ds gs : List (DataW H)) (before : List MemPlace)
    (hval : ∀ (j : Nat) t v, fn.params[j]? = some t → args[j]? = some v → Value.okWide Try.prog W .any base t v)
    (hW : DataW.Whole eh Try.prog fn.params.toList s.vars false W args.toList ds gs before)
    (hsz : (DataW.weightsEach Try.prog (fn.params.toList ++ s.plain.varTypes Try.prog) (ds ++ gs)).all (· ≤ reachBytes) = true) :
    Calls Try.prog fid args W fun e W' => ∃ v, e = .returned v ∧ s.post eh Try.prog fn false true false false W args v W' := by
  have hW' := hW
  obtain ⟨p, q, hA, hV, hps, hfz, hnd⟩ := hW
  have hwe : ∀ {j : Nat} {t : TypeId} {d : DataW H}, fn.params.toList[j]? = some t → ds[j]? = some d → ∀ n ∈ DataW.weights Try.prog t d, n ≤ reachBytes := fun {j t d} ht hd n hn => by
    have := List.all_eq_true.1 hsz n (DataW.weights_mem_each (j := j) (by rw [List.getElem?_append_left (List.getElem?_eq_some_iff.1 ht).1]; exact ht) (by rw [List.getElem?_append_left (List.getElem?_eq_some_iff.1 hd).1]; exact hd) n hn)
    simpa using this
  rw [hpar] at hA hval hwe
  rw [hvars] at hV
  obtain ⟨v0, vs0, d0, ds0, p0, q0, hargs, rfl, rfl, h0, r0⟩ := trodAll_cons hA
  obtain ⟨rfl, rfl, rfl⟩ := trodAll_nil r0
  obtain rfl : args = #[v0] := by cases args; simp_all
  obtain ⟨rfl, rfl⟩ := trodVars_none hV
  obtain ⟨fs, hfs⟩ := struct_flds hl
  obtain ⟨x, h1, h2, h3⟩ := arg_struct hO hfs (hval 0 t v0 rfl rfl) h0 (hwe (j := 0) rfl rfl)
  refine (law_calls (hp x) rfl (fun i a v ha hv => ?_)).mono fun e W' ⟨he, g, g', hE⟩ => ?_
  · cases i with
    | zero => cases ha; cases hv; exact h1
    | succ i => simp at ha
  · subst he
    have hs := hspec H d0
    exact ⟨_, rfl, law_post (tb := 4) laid (by rw [hpar]; intro t' ht'; simp at ht'; subst ht'; exact hrd) hvars (by rw [List.append_nil, hs]) (by rw [List.append_nil, hs]) (by rw [List.append_nil, hs]) hrt (by kernel_rfl) hW' hE⟩
/-- .. a struct and a number -/
theorem row2 {fn : Func} {fid : FuncId} {s : ChangeSpec} {α : Type} {n : Nat} {enc : α → List AV} {t : TypeId} {l : List (TypeId × Nat)} (hO : Opens Try.prog UB t α n enc (okAny _) (bulk0 _)) (hl : fldsOf Try.prog t = some l)
    (hp : ∀ x b, PureCall Try.prog fid [.agg (enc x), ai b] (.bool true)) (hpar : fn.params = #[t, 3]) (hrd : Try.prog.readableRec t = true ∧ t < Try.prog.types.size) (hvars : s.vars = []) (hspec : ∀ (H : Type) (d d' : DataW H), s.fn H [d, d'] = { results := [.lit (.bool true)], args := [d, d'] }) (hrt : fn.resultTypes = #[4])
    (H : Type) (eh : TypeId × Value → H) (W : World) (base : Nat) (args : Array Value) (ds gs : List (DataW H)) (before : List MemPlace)
    (hval : ∀ (j : Nat) t v, fn.params[j]? = some t → args[j]? = some v → Value.okWide Try.prog W .any base t v)
    (hW : DataW.Whole eh Try.prog fn.params.toList s.vars false W args.toList ds gs before)
    (hsz : (DataW.weightsEach Try.prog (fn.params.toList ++ s.plain.varTypes Try.prog) (ds ++ gs)).all (· ≤ reachBytes) = true) :
    Calls Try.prog fid args W fun e W' => ∃ v, e = .returned v ∧ s.post eh Try.prog fn false true false false W args v W' := by
  have hW' := hW
  obtain ⟨p, q, hA, hV, hps, hfz, hnd⟩ := hW
  have hwe : ∀ {j : Nat} {t : TypeId} {d : DataW H}, fn.params.toList[j]? = some t → ds[j]? = some d → ∀ n ∈ DataW.weights Try.prog t d, n ≤ reachBytes := fun {j t d} ht hd n hn => by
    have := List.all_eq_true.1 hsz n (DataW.weights_mem_each (j := j) (by rw [List.getElem?_append_left (List.getElem?_eq_some_iff.1 ht).1]; exact ht) (by rw [List.getElem?_append_left (List.getElem?_eq_some_iff.1 hd).1]; exact hd) n hn)
    simpa using this
  rw [hpar] at hA hval hwe
  rw [hvars] at hV
  obtain ⟨v0, vs0, d0, ds0, p0, q0, hargs, rfl, rfl, h0, r0⟩ := trodAll_cons hA
  obtain ⟨v1, vs1, d1, ds1, p1, q1, hargs1, rfl, rfl, h1, r1⟩ := trodAll_cons r0
  obtain ⟨rfl, rfl, rfl⟩ := trodAll_nil r1
  subst hargs1
  obtain rfl : args = #[v0, v1] := by cases args; simp_all
  obtain ⟨rfl, rfl⟩ := trodVars_none hV
  obtain ⟨fs, hfs⟩ := struct_flds hl
  obtain ⟨x, hx, _, _⟩ := arg_struct hO hfs (hval 0 t v0 rfl rfl) h0 (hwe (j := 0) rfl rfl)
  have h3 : Try.prog.underlying 3 = some (.int .i64) := by kernel_rfl
  obtain ⟨b, hb, _, _⟩ := arg_cell (α := Int) (enc := fun n => ai n) o_int h3 nofun nofun (hval 1 3 v1 rfl rfl) h1 (hwe (j := 1) rfl rfl)
  refine (law_calls (hp x b) rfl (fun i a v ha hv => ?_)).mono fun e W' ⟨he, g, g', hE⟩ => ?_
  · match i with
    | 0 => cases ha; cases hv; exact hx
    | 1 => cases ha; cases hv; exact hb
    | i + 2 => simp at ha
  · subst he
    have hs := hspec H d0 d1
    have hrd3 : Try.prog.readableRec 3 = true ∧ 3 < Try.prog.types.size := by decide +kernel
    exact ⟨_, rfl, law_post (tb := 4) laid (by rw [hpar]; intro t' ht'; simp at ht'; rcases ht' with rfl | rfl; exact hrd; exact hrd3) hvars (by rw [List.append_nil, hs]) (by rw [List.append_nil, hs]) (by rw [List.append_nil, hs]) hrt (by kernel_rfl) hW' hE⟩
end Go.Proofs.Ytmapiefbnjaikaa.Vm
/- Tables and packets, as plain data. -/
set_option linter.all false
namespace Go.Proofs.Ytmapiefbnjaikaa.Vm
open Go

structure Entry where
  arcs : List Int
  replace : Bool
  push : List Segment
  deriving DecidableEq, Inhabited
def Entry.enc (e : Entry) : List AV := [asl (e.arcs.map eInt), .bool e.replace, asl (e.push.map Segment.enc)]
structure Table where
  node : Int
  to : List Entry
  down : List Int
  deriving DecidableEq, Inhabited
def Table.enc (x : Table) : List AV := [ai x.node, asl (x.to.map Entry.enc), asl (x.down.map eInt)]
structure Packet where
  id : Int
  src : Int
  dst : Int
  flow : Int
  stack : List Segment
  hops : Int
  deriving DecidableEq, Inhabited
def Packet.enc (p : Packet) : List AV := [ai p.id, ai p.src, ai p.dst, ai p.flow, asl (p.stack.map Segment.enc), ai p.hops]
structure Case where
  t : Topology
  x : Table
  p : Packet
  deriving DecidableEq, Inhabited
def Case.enc (c : Case) : List AV := c.t.enc ++ c.x.enc ++ c.p.enc
end Go.Proofs.Ytmapiefbnjaikaa.Vm
/- Data: cases of the set 23; rows of functions whose arguments are as slices are. -/
set_option linter.all false
namespace Go.Proofs.Ytmapiefbnjaikaa.Vm
open Go Go.ChangeShapes Go.WideShapes Go.ChangeAt Go.RowKit Go.Proofs.Ytmapiefbnjaikaa
set_option maxRecDepth 100000
theorem reach_len {n b : Nat} (hb : 1 ≤ b) (h : n * b ≤ reachBytes) : n ≤ 140737488355328 :=
  Nat.le_trans (Nat.le_mul_of_pos_right n hb) (Nat.le_trans h (by decide))
theorem o_listK {t e : TypeId} {α : Type} {n : Nat} {enc : α → List AV} {ok : α → Prop} (hb : 1 ≤ Try.prog.bytesOf e) (ht : Try.prog.underlying t = some (.slice e)) (hc : Try.prog.cellsOf t = 1) (h : Opens Try.prog UB e α n enc ok (bulk0 _)) :
    Opens Try.prog UB t (List α) 1 (fun xs => [asl (xs.map enc)]) (fun xs => (∀ x ∈ xs, ok x) ∧ xs.length ≤ 140737488355328) (bulk0 _) :=
  (opens_slice uok ht hc h).map id (fun _ => rfl) (fun y a h => by simp at h; subst h; rfl) (fun _ => rfl) (fun _ h => ⟨h.1, reach_len hb h.2⟩) (fun _ => Nat.zero_le _)
theorem o_ints : Opens Try.prog UB 46 (List Int) 1 (fun xs => [asl (xs.map eInt)]) (fun xs => xs.length ≤ 140737488355328) (bulk0 _) :=
  (o_listK (by decide +kernel) (by kernel_rfl) (by kernel_rfl) (o_int.map id (enc' := eInt) (ok' := okAny _) (fun _ => rfl) (fun y a h => by simp [eInt] at h; subst h; rfl) (fun _ => rfl) (fun _ _ => trivial) (fun _ => Nat.zero_le _))).map id (fun _ => rfl) (fun y a h => by simp at h; subst h; rfl) (fun _ => rfl) (fun _ h => h.2) (fun _ => Nat.zero_le _)
theorem o_segmentsK : Opens Try.prog UB 27 (List Segment) 1 (fun xs => [asl (xs.map Segment.enc)]) (fun xs => xs.length ≤ 140737488355328) (bulk0 _) :=
  (o_listK (by decide +kernel) (by kernel_rfl) (by kernel_rfl) o_segment).map id (fun _ => rfl) (fun y a h => by simp at h; subst h; rfl) (fun _ => rfl) (fun _ h => h.2) (fun _ => Nat.zero_le _)
theorem o_entry : Opens Try.prog UB 60 Entry 3 Entry.enc (fun e => e.arcs.length ≤ 140737488355328 ∧ e.push.length ≤ 140737488355328) (bulk0 _) :=
  (opens_flds uok (l := [(46, 0), (4, 1), (27, 2)]) (by kernel_rfl) (by kernel_rfl) (by decide)
    (opens_cons (f := fld (46, 0)) o_ints (opens_cons (f := fld (4, 1)) o_bool (opens_cons (f := fld (27, 2)) o_segmentsK opens_nil)))).map
    (fun x => ⟨x.1, x.2.1, x.2.2.1⟩) (fun _ => rfl) (fun y a h => by
      simp only [Entry.enc, List.mem_cons, List.mem_nil_iff, or_false] at h; rcases h with rfl | rfl | rfl <;> rfl) (fun _ => rfl) (fun x h => ⟨h.1, h.2.2.1⟩) (fun _ => Nat.zero_le _)
theorem o_entries : Opens Try.prog UB 45 (List Entry) 1 (fun xs => [asl (xs.map Entry.enc)]) (fun xs => (∀ e ∈ xs, e.arcs.length ≤ 140737488355328 ∧ e.push.length ≤ 140737488355328) ∧ xs.length ≤ 140737488355328) (bulk0 _) := o_listK (by decide +kernel) (by kernel_rfl) (by kernel_rfl) o_entry
def Table.Ok (x : Table) : Prop := ((∀ e ∈ x.to, e.arcs.length ≤ 140737488355328 ∧ e.push.length ≤ 140737488355328) ∧ x.to.length ≤ 140737488355328) ∧ x.down.length ≤ 140737488355328
theorem o_table : Opens Try.prog UB 48 Table 3 Table.enc Table.Ok (bulk0 _) :=
  (opens_flds uok (l := [(3, 0), (45, 1), (46, 2)]) (by kernel_rfl) (by kernel_rfl) (by decide)
    (opens_cons (f := fld (3, 0)) o_int (opens_cons (f := fld (45, 1)) o_entries (opens_cons (f := fld (46, 2)) o_ints opens_nil)))).map
    (fun x => ⟨x.1, x.2.1, x.2.2.1⟩) (fun _ => rfl) (fun y a h => by
      simp only [Table.enc, List.mem_cons, List.mem_nil_iff, or_false] at h; rcases h with rfl | rfl | rfl <;> rfl) (fun _ => rfl) (fun x h => ⟨h.2.1, h.2.2.1⟩) (fun _ => Nat.zero_le _)
theorem o_packet : Opens Try.prog UB 50 Packet 6 Packet.enc (fun p => p.stack.length ≤ 140737488355328) (bulk0 _) :=
  (opens_flds uok (l := [(3, 0), (3, 1), (3, 2), (3, 3), (27, 4), (3, 5)]) (by kernel_rfl) (by kernel_rfl) (by decide)
    (opens_cons (f := fld (3, 0)) o_int (opens_cons (f := fld (3, 1)) o_int (opens_cons (f := fld (3, 2)) o_int (opens_cons (f := fld (3, 3)) o_int (opens_cons (f := fld (27, 4)) o_segmentsK (opens_cons (f := fld (3, 5)) o_int opens_nil))))))).map
    (fun x => ⟨x.1, x.2.1, x.2.2.1, x.2.2.2.1, x.2.2.2.2.1, x.2.2.2.2.2.1⟩) (fun _ => rfl) (fun y a h => by
      simp only [Packet.enc, List.mem_cons, List.mem_nil_iff, or_false] at h; rcases h with rfl | rfl | rfl | rfl | rfl | rfl <;> rfl) (fun _ => rfl) (fun x h => h.2.2.2.2.1) (fun _ => Nat.zero_le _)
theorem o_case : Opens Try.prog UB 52 Case 12 Case.enc (fun c => c.x.Ok ∧ c.p.stack.length ≤ 140737488355328) (bulk0 _) :=
  (opens_flds uok (l := [(25, 0), (48, 3), (50, 6)]) (by kernel_rfl) (by kernel_rfl) (by decide)
    (opens_cons (f := fld (25, 0)) o_topology (opens_cons (f := fld (48, 3)) o_table (opens_cons (f := fld (50, 6)) o_packet opens_nil)))).map
    (fun x => ⟨x.1, x.2.1, x.2.2.1⟩) (fun _ => rfl) (fun y a h => by
      simp only [Case.enc, Topology.enc, Table.enc, Packet.enc, List.cons_append, List.nil_append, List.mem_cons, List.mem_nil_iff, or_false] at h; rcases h with rfl | rfl | rfl | rfl | rfl | rfl | rfl | rfl | rfl | rfl | rfl | rfl <;> rfl)
    (fun x => by show _ = _; simp [Case.enc]) (fun x h => ⟨h.2.1, h.2.2.1⟩) (fun _ => Nat.zero_le _)
theorem o_u8 : Opens Try.prog UB 5 Int 1 (fun n => [.int .u8 n]) (fun n => 0 ≤ n ∧ n ≤ 255) (bulk0 _) := (opens_int uok (k := .u8) (by kernel_rfl) (by kernel_rfl)).map id (fun _ => rfl) (fun y a h => by simp at h; subst h; rfl) (fun _ => rfl) (fun _ h => h) (fun _ => Nat.zero_le _)

/-- a row's contract: one struct -/
theorem rowK1 {fn : Func} {fid : FuncId} {s : ChangeSpec} {α : Type} {n : Nat} {enc : α → List AV} {ok : α → Prop} {t : TypeId} {l : List (TypeId × Nat)} (hO : Opens Try.prog UB t α n enc ok (bulk0 _)) (hl : fldsOf Try.prog t = some l)
    (hp : ∀ x, ok x → PureCall Try.prog fid [.agg (enc x)] (.bool true)) (hpar : fn.params = #[t]) (hrd : Try.prog.readableRec t = true ∧ t < Try.prog.types.size) (hvars : s.vars = []) (hspec : ∀ (H : Type) (d : DataW H), s.fn H [d] = { results := [.lit (.bool true)], args := [d] }) (hrt : fn.resultTypes = #[4])
    (H : Type) (eh : TypeId × Value → H) (W : World) (base : Nat) (args : Array Value) (ds gs : List (DataW H)) (before : List MemPlace)
    (hval : ∀ (j : Nat) t v, fn.params[j]? = some t → args[j]? = some v → Value.okWide Try.prog W .any base t v)
    (hW : DataW.Whole eh Try.prog fn.params.toList s.vars false W args.toList ds gs before)
    (hsz : (DataW.weightsEach Try.prog (fn.params.toList ++ s.plain.varTypes Try.prog) (ds ++ gs)).all (· ≤ reachBytes) = true) :
    Calls Try.prog fid args W fun e W' => ∃ v, e = .returned v ∧ s.post eh Try.prog fn false true false false W args v W' := by
  have hW' := hW
  obtain ⟨p, q, hA, hV, hps, hfz, hnd⟩ := hW
  have hwe : ∀ {j : Nat} {t : TypeId} {d : DataW H}, fn.params.toList[j]? = some t → ds[j]? = some d → ∀ n ∈ DataW.weights Try.prog t d, n ≤ reachBytes := fun {j t d} ht hd n hn => by
    have := List.all_eq_true.1 hsz n (DataW.weights_mem_each (j := j) (by rw [List.getElem?_append_left (List.getElem?_eq_some_iff.1 ht).1]; exact ht) (by rw [List.getElem?_append_left (List.getElem?_eq_some_iff.1 hd).1]; exact hd) n hn)
    simpa using this
  rw [hpar] at hA hval hwe
  rw [hvars] at hV
  obtain ⟨v0, vs0, d0, ds0, p0, q0, hargs, rfl, rfl, h0, r0⟩ := trodAll_cons hA
  obtain ⟨rfl, rfl, rfl⟩ := trodAll_nil r0
  obtain rfl : args = #[v0] := by cases args; simp_all
  obtain ⟨rfl, rfl⟩ := trodVars_none hV
  obtain ⟨fs, hfs⟩ := struct_flds hl
  obtain ⟨x, h1, h2, h3⟩ := arg_struct hO hfs (hval 0 t v0 rfl rfl) h0 (hwe (j := 0) rfl rfl)
  refine (law_calls (hp x h2) rfl (fun i a v ha hv => ?_)).mono fun e W' ⟨he, g, g', hE⟩ => ?_
  · cases i with
    | zero => cases ha; cases hv; exact h1
    | succ i => simp at ha
  · subst he
    have hs := hspec H d0
    exact ⟨_, rfl, law_post (tb := 4) laid (by rw [hpar]; intro t' ht'; simp at ht'; subst ht'; exact hrd) hvars (by rw [List.append_nil, hs]) (by rw [List.append_nil, hs]) (by rw [List.append_nil, hs]) hrt (by kernel_rfl) hW' hE⟩
/-- .. a struct and one cell -/
theorem rowK2 {fn : Func} {fid : FuncId} {s : ChangeSpec} {α β : Type} {n : Nat} {enc : α → List AV} {ok : α → Prop} {enc2 : β → AV} {ok2 : β → Prop} {t t2 : TypeId} {d2 : TypeDesc} {l : List (TypeId × Nat)} (hO : Opens Try.prog UB t α n enc ok (bulk0 _)) (hl : fldsOf Try.prog t = some l)
    (hO2 : Opens Try.prog UB t2 β 1 (fun x => [enc2 x]) ok2 (bulk0 _)) (hd2 : Try.prog.underlying t2 = some d2) (hn1 : ∀ fs, d2 ≠ .struct fs) (hn2 : ∀ n e, d2 ≠ .array n e)
    (hp : ∀ x b, ok x → ok2 b → PureCall Try.prog fid [.agg (enc x), enc2 b] (.bool true)) (hpar : fn.params = #[t, t2]) (hrd : Try.prog.readableRec t = true ∧ t < Try.prog.types.size) (hrd2 : Try.prog.readableRec t2 = true ∧ t2 < Try.prog.types.size) (hvars : s.vars = []) (hspec : ∀ (H : Type) (d d' : DataW H), s.fn H [d, d'] = { results := [.lit (.bool true)], args := [d, d'] }) (hrt : fn.resultTypes = #[4])
    (H : Type) (eh : TypeId × Value → H) (W : World) (base : Nat) (args : Array Value) (ds gs : List (DataW H)) (before : List MemPlace)
    (hval : ∀ (j : Nat) t v, fn.params[j]? = some t → args[j]? = some v → Value.okWide Try.prog W .any base t v)
    (hW : DataW.Whole eh Try.prog fn.params.toList s.vars false W args.toList ds gs before)
    (hsz : (DataW.weightsEach Try.prog (fn.params.toList ++ s.plain.varTypes Try.prog) (ds ++ gs)).all (· ≤ reachBytes) = true) :
    Calls Try.prog fid args W fun e W' => ∃ v, e = .returned v ∧ s.post eh Try.prog fn false true false false W args v W' := by
  have hW' := hW
  obtain ⟨p, q, hA, hV, hps, hfz, hnd⟩ := hW
  have hwe : ∀ {j : Nat} {t : TypeId} {d : DataW H}, fn.params.toList[j]? = some t → ds[j]? = some d → ∀ n ∈ DataW.weights Try.prog t d, n ≤ reachBytes := fun {j t d} ht hd n hn => by
    have := List.all_eq_true.1 hsz n (DataW.weights_mem_each (j := j) (by rw [List.getElem?_append_left (List.getElem?_eq_some_iff.1 ht).1]; exact ht) (by rw [List.getElem?_append_left (List.getElem?_eq_some_iff.1 hd).1]; exact hd) n hn)
    simpa using this
  rw [hpar] at hA hval hwe
  rw [hvars] at hV
  obtain ⟨v0, vs0, d0, ds0, p0, q0, hargs, rfl, rfl, h0, r0⟩ := trodAll_cons hA
  obtain ⟨v1, vs1, d1, ds1, p1, q1, hargs1, rfl, rfl, h1, r1⟩ := trodAll_cons r0
  obtain ⟨rfl, rfl, rfl⟩ := trodAll_nil r1
  subst hargs1
  obtain rfl : args = #[v0, v1] := by cases args; simp_all
  obtain ⟨rfl, rfl⟩ := trodVars_none hV
  obtain ⟨fs, hfs⟩ := struct_flds hl
  obtain ⟨x, hx, hx2, _⟩ := arg_struct hO hfs (hval 0 t v0 rfl rfl) h0 (hwe (j := 0) rfl rfl)
  obtain ⟨b, hb, hb2, _⟩ := arg_cell hO2 hd2 hn1 hn2 (hval 1 t2 v1 rfl rfl) h1 (hwe (j := 1) rfl rfl)
  refine (law_calls (hp x b hx2 hb2) rfl (fun i a v ha hv => ?_)).mono fun e W' ⟨he, g, g', hE⟩ => ?_
  · match i with
    | 0 => cases ha; cases hv; exact hx
    | 1 => cases ha; cases hv; exact hb
    | i + 2 => simp at ha
  · subst he
    have hs := hspec H d0 d1
    exact ⟨_, rfl, law_post (tb := 4) laid (by rw [hpar]; intro t' ht'; simp at ht'; rcases ht' with rfl | rfl; exact hrd; exact hrd2) hvars (by rw [List.append_nil, hs]) (by rw [List.append_nil, hs]) (by rw [List.append_nil, hs]) hrt (by kernel_rfl) hW' hE⟩
end Go.Proofs.Ytmapiefbnjaikaa.Vm
/- Contracts: topology. -/
set_option linter.all false
namespace Go.Proofs.Ytmapiefbnjaikaa.Vm
open Go
set_option maxRecDepth 100000

theorem inside_c (x a b : Int) : PureCall Try.prog F.topology_inside [ai x, ai a, ai b] (.bool (decide (a ≤ x) && decide (x ≤ b))) := by
  refine contractS fits K.topology_inside ?_
  repeat' (first
    | ((with_reducible refine step ?_); conv => whnf)
    | with_reducible refine And.intro (fun _ => ?_) (fun _ => ?_))
  all_goals simp [*]
theorem within_c (x a b : Int) : PureCall Try.prog F.ref09_within [ai x, ai a, ai b] (.bool (decide (a ≤ x) && decide (x ≤ b))) := by
  refine contractS fits K.ref09_within ?_
  repeat' (first
    | ((with_reducible refine step ?_); conv => whnf)
    | with_reducible refine And.intro (fun _ => ?_) (fun _ => ?_))
  all_goals simp [*]

def Link.proper (l : Link) (n : Int) : Bool := decide (0 ≤ l.a) && decide (l.a ≤ IntKind.i64.wrap (n - 1)) && (decide (0 ≤ l.b) && decide (l.b ≤ IntKind.i64.wrap (n - 1))) && !decide (l.a = l.b) &&
  (decide (1 ≤ l.c0) && decide (l.c0 ≤ 65535)) && (decide (1 ≤ l.c1) && decide (l.c1 ≤ 65535)) && (decide (0 ≤ l.cap) && decide (l.cap ≤ 1048576)) && (decide (1 ≤ l.delay) && decide (l.delay ≤ 65536)) && (decide (0 ≤ l.group) && decide (l.group ≤ 64))
theorem proper_c (l : Link) (n : Int) : PureCall Try.prog F.topology_proper [.agg l.enc, ai n] (.bool (l.proper n)) := by
  refine contractS fits K.topology_proper ?_
  repeat' (first
    | ((with_reducible refine step ?_); conv => whnf)
    | (refine call_pure (inside_c _ _ _) rfl rfl ?_; conv => whnf)
    | with_reducible refine And.intro (fun _ => ?_) (fun _ => ?_)
    | refine Exists.intro _ (And.intro rfl (And.intro (by decide) ?_)))
  all_goals simp [Link.proper, *]

def Topology.valid (t : Topology) : Bool := decide (1 ≤ t.nodes) && decide (t.nodes ≤ 64) && (decide (t.overload.length = 0) || decide ((t.overload.length : Int) = t.nodes)) && decide (t.links.length ≤ 256) && t.links.all fun l => l.proper t.nodes

theorem valid_c (t : Topology) : PureCall Try.prog F.topology_Valid [.agg t.enc] (.bool t.valid) := by
  refine contractS fits K.topology_Valid ?_
  repeat' (first
    | ((with_reducible refine step ?_); conv => whnf)
    | (refine call_pure (inside_c _ _ _) rfl rfl ?_; conv => whnf)
    | (with_reducible refine And.intro (fun _ => ?_) (fun _ => ?_)))
  all_goals first
    | (refine loop_invS (fun i => i ≤ t.links.length ∧ ∀ l ∈ t.links.take i, l.proper t.nodes = true) [1, 30, 31, 32] 1 (fun i => [(32, ai i)]) (fun _ => []) (fun i => t.links.length - i) 0 (by decide) (by decide) ?_
       conv => whnf
       refine ⟨rfl, rfl, by simp, fun i ⟨hi, hp⟩ => ?_⟩
       repeat' (first
        | ((with_reducible refine step ?_); conv => whnf)
        | (refine call_pure (proper_c _ _) rfl rfl ?_; conv => whnf)
        | (with_reducible refine And.intro (fun _ => ?_) (fun _ => ?_))
        | (have hlt : i < t.links.length := (by simp_all); refine idx_nat hlt rfl ?_; conv => whnf)))
    | skip
  all_goals try simp only [List.length_map, Bool.not_eq_true', Bool.not_eq_false', Bool.and_eq_true, Bool.and_eq_false_iff, decide_eq_true_eq, decide_eq_false_iff_not] at *
  all_goals first
    | exact ⟨_, ⟨Nat.succ_le_of_lt hlt, all_take_succ hlt hp (by assumption)⟩, by omega, by rw [wrap_succ (by omega)]; rfl, rfl⟩
    | refine congrArg AV.bool ?_
  all_goals try (rw [Topology.valid, all_false hlt (by assumption), Bool.and_false]; done)
  all_goals try (rw [Topology.valid, all_true (by omega) hp]; simp_all; try omega; done)
  all_goals symm; simp_all [Topology.valid]; try omega

/-- the reference's way -/
theorem valid9_c (t : Topology) : PureCall Try.prog F.ref09_Valid [.agg t.enc] (.bool t.valid) := by
  refine contractS fits K.ref09_Valid ?_
  repeat' (first
    | ((with_reducible refine step ?_); conv => whnf)
    | (refine call_pure (within_c _ _ _) rfl rfl ?_; conv => whnf)
    | (with_reducible refine And.intro (fun _ => ?_) (fun _ => ?_)))
  all_goals first
    | (refine loop_invS (fun i => i ≤ t.links.length ∧ ∀ l ∈ t.links.take i, l.proper t.nodes = true) [1, 3] 1 (fun i => [(3, ai i)]) (fun _ => []) (fun i => t.links.length - i) 0 (by decide) (by decide) ?_
       conv => whnf
       refine ⟨rfl, rfl, by simp, fun i ⟨hi, hp⟩ => ?_⟩
       repeat' (first
        | ((with_reducible refine step ?_); conv => whnf)
        | (refine call_pure (within_c _ _ _) rfl rfl ?_; conv => whnf)
        | (with_reducible refine And.intro (fun _ => ?_) (fun _ => ?_))
        | (have hlt : i < t.links.length := (by simp_all); refine idx_nat hlt rfl ?_; conv => whnf)
        | refine Exists.intro _ (And.intro rfl (And.intro (by decide) ?_))))
    | skip
  all_goals try simp only [List.length_map, Bool.not_eq_true', Bool.not_eq_false', Bool.and_eq_true, Bool.and_eq_false_iff, decide_eq_true_eq, decide_eq_false_iff_not] at *
  all_goals first
    | exact ⟨_, ⟨Nat.succ_le_of_lt hlt, all_take_succ hlt hp (by simp_all [Link.proper])⟩, by omega, by rw [wrap_succ (by omega)]; rfl, rfl⟩
    | refine congrArg AV.bool ?_
  all_goals try (rw [Topology.valid, all_false hlt (by simp_all [Link.proper]; try omega), Bool.and_false]; done)
  all_goals try (rw [Topology.valid, all_true (by omega) hp]; simp_all; try omega; done)
  all_goals symm; simp_all [Topology.valid]; try omega
end Go.Proofs.Ytmapiefbnjaikaa.Vm
/- Contracts: arcs of a topology; segments. -/
set_option linter.all false
namespace Go.Proofs.Ytmapiefbnjaikaa.Vm
open Go
set_option maxRecDepth 100000

theorem valid_links {t : Topology} (h : t.valid = true) : t.links.length ≤ 256 := by simp [Topology.valid] at h; omega
theorem valid_nodes {t : Topology} (h : t.valid = true) : 1 ≤ t.nodes ∧ t.nodes ≤ 64 := by simp [Topology.valid] at h; omega

def Topology.arcs (t : Topology) : Int := if t.valid then 2 * t.links.length else 0
def Topology.at_ (t : Topology) (a : Int) : Link := t.links.getD (a / 2).toNat default
def Topology.tail (t : Topology) (a : Int) : Int := if a < 0 ∨ t.arcs ≤ a then -1 else if a % 2 = 0 then (t.at_ a).a else (t.at_ a).b
def Topology.head (t : Topology) (a : Int) : Int := if a < 0 ∨ t.arcs ≤ a then -1 else if a % 2 = 0 then (t.at_ a).b else (t.at_ a).a
def Topology.cost (t : Topology) (a : Int) : Int := if a < 0 ∨ t.arcs ≤ a then -1 else if a % 2 = 0 then (t.at_ a).c0 else (t.at_ a).c1

theorem arcs_c (t : Topology) : PureCall Try.prog F.topology_Arcs [.agg t.enc] (ai t.arcs) := by
  refine contractS fits K.topology_Arcs ?_
  repeat' (first
    | ((with_reducible refine step ?_); conv => whnf)
    | (refine call_pure (valid_c _) rfl rfl ?_; conv => whnf)
    | (with_reducible refine And.intro (fun h => ?_) (fun h => ?_)))
  all_goals refine congrArg ai ?_
  all_goals simp only [Bool.not_eq_true', Bool.not_eq_false', List.length_map] at *
  · simp [Topology.arcs, h]
  · have := valid_links h
    simp only [Topology.arcs, h, if_true]
    rw [wrap_in (by omega)]
theorem arcs9_c (t : Topology) : PureCall Try.prog F.ref09_Arcs [.agg t.enc] (ai t.arcs) := by
  refine contractS fits K.ref09_Arcs ?_
  repeat' (first
    | ((with_reducible refine step ?_); conv => whnf)
    | (refine call_pure (valid9_c _) rfl rfl ?_; conv => whnf)
    | (with_reducible refine And.intro (fun h => ?_) (fun h => ?_)))
  all_goals refine congrArg ai ?_
  all_goals simp only [Bool.not_eq_true', Bool.not_eq_false', List.length_map] at *
  · simp [Topology.arcs, h]
  · have := valid_links h
    simp only [Topology.arcs, h, if_true]
    rw [wrap_in (by omega)]

theorem arcs_le {t : Topology} {a : Int} (h0 : ¬ a < 0) (h : ¬ t.arcs ≤ a) : (a / 2).toNat < t.links.length ∧ t.links.length ≤ 256 ∧ t.valid = true ∧ t.arcs = 2 * t.links.length := by
  unfold Topology.arcs at h ⊢
  split at h
  · rename_i hv; have := valid_links hv; exact ⟨by omega, this, hv, by simp [hv]⟩
  · omega
theorem at_get {t : Topology} {a : Int} (h : (a / 2).toNat < t.links.length) : t.links[(a / 2).toNat] = t.at_ a := by simp [Topology.at_, h]

/-- an index that is half an arc -/
theorem half {a : Int} (h0 : ¬ a < 0) (h : a ≤ 9223372036854775807) : IntKind.i64.wrap (a.tdiv 2) = ((a / 2).toNat : Int) := by
  rw [Int.tdiv_eq_ediv_of_nonneg (by omega), wrap_in (by omega)]; omega
theorem tmod2 {a : Int} (h0 : ¬ a < 0) : a.tmod 2 = a % 2 := Int.tmod_eq_emod_of_nonneg (by omega)

theorem ends_c (t : Topology) (a : Int) : PureCall Try.prog F.topology_ends [.agg t.enc, ai a] (.tuple [ai (t.tail a), ai (t.head a), ai (t.cost a)]) := by
  refine contractS fits K.topology_ends ?_
  repeat' (first
    | ((with_reducible refine step ?_); conv => whnf)
    | (refine call_pure (arcs_c _) rfl rfl ?_; conv => whnf)
    | (with_reducible refine And.intro (fun h => ?_) (fun h => ?_))
    | (with_reducible refine And.intro (show (_ : Int) ≠ 0 by decide) ?_; conv => whnf)
    | (have hq := arcs_le (t := t) (a := a) (by simp_all) (by simp_all); refine idx_int (half (by simp_all) (by omega)) hq.1 rfl ?_; conv => whnf)
    | refine Exists.intro _ (And.intro rfl (And.intro (by decide) ?_)))
  all_goals simp only [decide_eq_true_eq, decide_eq_false_iff_not, decide_not, Bool.not_eq_true', Bool.not_eq_false'] at *
  all_goals try rw [tmod2 (by assumption)] at *
  all_goals grind [Topology.tail, Topology.head, Topology.cost, at_get]
theorem tail_c (t : Topology) (a : Int) : PureCall Try.prog F.topology_Tail [.agg t.enc, ai a] (ai (t.tail a)) := by
  refine contractS fits K.topology_Tail ?_
  repeat' (first
    | ((with_reducible refine step ?_); conv => whnf)
    | (refine call_pure (ends_c _ _) rfl rfl ?_; conv => whnf))
  all_goals rfl
theorem head_c (t : Topology) (a : Int) : PureCall Try.prog F.topology_Head [.agg t.enc, ai a] (ai (t.head a)) := by
  refine contractS fits K.topology_Head ?_
  repeat' (first
    | ((with_reducible refine step ?_); conv => whnf)
    | (refine call_pure (ends_c _ _) rfl rfl ?_; conv => whnf))
  all_goals rfl
theorem tail9_c (t : Topology) (a : Int) : PureCall Try.prog F.ref09_Tail [.agg t.enc, ai a] (ai (t.tail a)) := by
  refine contractS fits K.ref09_Tail ?_
  repeat' (first
    | ((with_reducible refine step ?_); conv => whnf)
    | (refine call_pure (arcs9_c _) rfl rfl ?_; conv => whnf)
    | (with_reducible refine And.intro (fun h => ?_) (fun h => ?_))
    | (with_reducible refine And.intro (show (_ : Int) ≠ 0 by decide) ?_; conv => whnf)
    | (have hq := arcs_le (t := t) (a := a) (by simp_all) (by simp_all); refine idx_int (half (by simp_all) (by omega)) hq.1 rfl ?_; conv => whnf)
    | refine Exists.intro _ (And.intro rfl (And.intro (by decide) ?_)))
  all_goals simp only [decide_eq_true_eq, decide_eq_false_iff_not, decide_not, Bool.not_eq_true', Bool.not_eq_false'] at *
  all_goals try rw [tmod2 (by assumption)] at *
  all_goals grind [Topology.tail, Topology.head, Topology.cost, at_get]
theorem head9_c (t : Topology) (a : Int) : PureCall Try.prog F.ref09_Head [.agg t.enc, ai a] (ai (t.head a)) := by
  refine contractS fits K.ref09_Head ?_
  repeat' (first
    | ((with_reducible refine step ?_); conv => whnf)
    | (refine call_pure (arcs9_c _) rfl rfl ?_; conv => whnf)
    | (refine call_pure (tail9_c _ _) rfl rfl ?_; conv => whnf)
    | (with_reducible refine And.intro (fun h => ?_) (fun h => ?_))
    | (with_reducible refine And.intro (show (_ : Int) ≠ 0 by decide) ?_; conv => whnf))
  all_goals simp only [decide_eq_true_eq, decide_eq_false_iff_not, decide_not, Bool.not_eq_true', Bool.not_eq_false'] at *
  · simp [Topology.head, h]
  · simp [Topology.head, h]
  · rename_i h0
    obtain ⟨q1, q2, q3, q4⟩ := arcs_le h0 h
    refine congrArg ai ?_
    rw [tmod2 h0, half h0 (by omega)]
    have e : ((a / 2).toNat : Int) = a / 2 := by omega
    rw [e, wrap_in (n := a / 2 * 2) (by omega), wrap_in (n := a / 2 * 2 + 1) (by omega), wrap_in (n := a / 2 * 2 + 1 - a % 2) (by omega)]
    have hat : t.at_ (a / 2 * 2 + 1 - a % 2) = t.at_ a := by unfold Topology.at_; congr 2; omega
    have h1 : ¬ (a / 2 * 2 + 1 - a % 2 < 0 ∨ t.arcs ≤ a / 2 * 2 + 1 - a % 2) := by omega
    have h2 : ¬ (a < 0 ∨ t.arcs ≤ a) := by omega
    simp only [Topology.tail, Topology.head, h1, h2, if_false, hat]
    by_cases h3 : a % 2 = 0
    · rw [if_neg (by omega), if_pos h3]
    · rw [if_pos (by omega), if_neg h3]

/-- a segment in a topology -/
def Segment.valid (t : Topology) (s : Segment) : Bool :=
  if t.valid = false ∨ s.num < 0 then false else if s.kind = 1 then decide (s.num < t.nodes) else if s.kind = 2 then decide (s.num < t.arcs) else if s.kind = 3 then decide (1 ≤ s.num) && decide (s.num ≤ 64) else decide (s.kind = 4) && decide (s.num ≤ 65535)
theorem arcs_valid {t : Topology} (h : t.valid = true) : t.arcs = 2 * t.links.length := by simp [Topology.arcs, h]

theorem segValid_c (t : Topology) (s : Segment) : PureCall Try.prog F.segment_Valid [.agg t.enc, .agg s.enc] (.bool (s.valid t)) := by
  refine contractS fits K.segment_Valid ?_
  repeat' (first
    | ((with_reducible refine step ?_); conv => whnf)
    | (refine call_pure (valid_c _) rfl rfl ?_; conv => whnf)
    | (with_reducible refine And.intro (fun h => ?_) (fun h => ?_)))
  all_goals simp only [decide_eq_true_eq, decide_eq_false_iff_not, decide_not, Bool.not_eq_true', Bool.not_eq_false', List.length_map] at *
  all_goals refine congrArg AV.bool ?_
  all_goals try rw [wrap_in (by have := valid_links ‹_›; omega)]
  all_goals grind [Segment.valid, arcs_valid]
theorem segValid18_c (t : Topology) (s : Segment) : PureCall Try.prog F.ref18_Valid [.agg t.enc, .agg s.enc] (.bool (s.valid t)) := by
  refine contractS fits K.ref18_Valid ?_
  repeat' (first
    | ((with_reducible refine step ?_); conv => whnf)
    | (refine call_pure (valid9_c _) rfl rfl ?_; conv => whnf)
    | (refine call_pure (arcs9_c _) rfl rfl ?_; conv => whnf)
    | (with_reducible refine And.intro (fun h => ?_) (fun h => ?_)))
  all_goals simp only [decide_eq_true_eq, decide_eq_false_iff_not, decide_not, Bool.not_eq_true', Bool.not_eq_false', List.length_map] at *
  all_goals refine congrArg AV.bool ?_
  all_goals grind [Segment.valid, arcs_valid]

/-- all segments of a list are valid -/
theorem segsValid_c (t : Topology) (l : List Segment) (hl : l.length < 4611686018427387904) : PureCall Try.prog F.policy_proper [.agg t.enc, asl (l.map Segment.enc)] (.bool (l.all (·.valid t))) := by
  refine contractS fits K.policy_proper ?_
  repeat' (first
    | ((with_reducible refine step ?_); conv => whnf)
    | (with_reducible refine And.intro (fun _ => ?_) (fun _ => ?_)))
  refine loop_invS (fun i => i ≤ l.length ∧ ∀ s ∈ l.take i, s.valid t = true) [2, 7, 8, 9] 1 (fun i => [(9, ai i)]) (fun _ => []) (fun i => l.length - i) 0 (by decide) (by decide) ?_
  conv => whnf
  refine ⟨rfl, rfl, by simp, fun i ⟨hi, hp⟩ => ?_⟩
  repeat' (first
        | ((with_reducible refine step ?_); conv => whnf)
        | (refine call_pure (segValid_c _ _) rfl rfl ?_; conv => whnf)
        | (with_reducible refine And.intro (fun _ => ?_) (fun _ => ?_))
        | (have hlt : i < l.length := (by simp_all); refine idx_nat hlt rfl ?_; conv => whnf))
  all_goals try simp only [List.length_map, Bool.not_eq_true', Bool.not_eq_false', Bool.and_eq_true, Bool.and_eq_false_iff, decide_eq_true_eq, decide_eq_false_iff_not] at *
  · refine congrArg AV.bool ?_
    rw [all_false hlt (by assumption)]
  · exact ⟨_, ⟨Nat.succ_le_of_lt hlt, all_take_succ hlt hp (by assumption)⟩, by omega, by rw [wrap_succ (by omega)]; rfl, rfl⟩
  · refine congrArg AV.bool ?_
    rw [all_true (by omega) hp]
theorem segsValid21_c (t : Topology) (l : List Segment) (hl : l.length < 4611686018427387904) : PureCall Try.prog F.ref21_proper [.agg t.enc, asl (l.map Segment.enc)] (.bool (l.all (·.valid t))) := by
  refine contractS fits K.ref21_proper ?_
  repeat' (first
    | ((with_reducible refine step ?_); conv => whnf)
    | (with_reducible refine And.intro (fun _ => ?_) (fun _ => ?_)))
  refine loop_invS (fun i => i ≤ l.length ∧ ∀ s ∈ l.take i, s.valid t = true) [1, 2, 5] 1 (fun i => [(5, ai i)]) (fun _ => []) (fun i => l.length - i) 0 (by decide) (by decide) ?_
  conv => whnf
  refine ⟨rfl, rfl, by simp, fun i ⟨hi, hp⟩ => ?_⟩
  repeat' (first
        | ((with_reducible refine step ?_); conv => whnf)
        | (refine call_pure (segValid18_c _ _) rfl rfl ?_; conv => whnf)
        | (with_reducible refine And.intro (fun _ => ?_) (fun _ => ?_))
        | (have hlt : i < l.length := (by simp_all); refine idx_nat hlt rfl ?_; conv => whnf))
  all_goals try simp only [List.length_map, Bool.not_eq_true', Bool.not_eq_false', Bool.and_eq_true, Bool.and_eq_false_iff, decide_eq_true_eq, decide_eq_false_iff_not] at *
  · refine congrArg AV.bool ?_
    rw [all_false hlt (by assumption)]
  · exact ⟨_, ⟨Nat.succ_le_of_lt hlt, all_take_succ hlt hp (by assumption)⟩, by omega, by rw [wrap_succ (by omega)]; rfl, rfl⟩
  · refine congrArg AV.bool ?_
    rw [all_true (by omega) hp]
end Go.Proofs.Ytmapiefbnjaikaa.Vm
/- Contracts: lists of segments, policies found. -/
set_option linter.all false
namespace Go.Proofs.Ytmapiefbnjaikaa.Vm
open Go
set_option maxRecDepth 100000

/-- two lists' elements compared one by one up to a place -/
theorem eq_of_take {α : Type} [DecidableEq α] {a b : List α} (hl : a.length = b.length) {i : Nat} (hi : a.length ≤ i) (h : a.take i = b.take i) : a = b := by
  rwa [List.take_of_length_le hi, List.take_of_length_le (by omega)] at h
theorem ne_of_get {α : Type} {a b : List α} {i : Nat} (h1 : i < a.length) (h2 : i < b.length) (h : a[i] ≠ b[i]) : a ≠ b := fun e => by subst e; exact h rfl
theorem take_succ_eq {α : Type} {a b : List α} {i : Nat} (h1 : i < a.length) (h2 : i < b.length) (h : a.take i = b.take i) (he : a[i] = b[i]) : a.take (i + 1) = b.take (i + 1) := by
  rw [List.take_succ_eq_append_getElem h1, List.take_succ_eq_append_getElem h2, h, he]

theorem same18_c (a b : List Segment) (ha : a.length < 4611686018427387904) : PureCall Try.prog F.ref18_Same [asl (a.map Segment.enc), asl (b.map Segment.enc)] (.bool (decide (a = b))) := by
  refine contractS fits K.ref18_Same ?_
  repeat' (first
    | ((with_reducible refine step ?_); conv => whnf)
    | (with_reducible refine And.intro (fun h => ?_) (fun h => ?_)))
  · simp at h
    refine congrArg AV.bool ?_
    symm; rw [decide_eq_false_iff_not]; exact fun e => by subst e; exact h rfl
  · simp at h
    have h : a.length = b.length := by omega
    refine loop_invS (fun i => i ≤ a.length ∧ a.take i = b.take i) [0, 1, 5] 0 (fun i => [(5, ai i)]) (fun _ => []) (fun i => a.length - i) 0 (by decide) (by decide) ?_
    conv => whnf
    refine ⟨rfl, rfl, by simp, fun i ⟨hi, hp⟩ => ?_⟩
    repeat' (first
        | ((with_reducible refine step ?_); conv => whnf)
        | (with_reducible refine And.intro (fun _ => ?_) (fun _ => ?_))
        | (have hlt : i < a.length := (by simp_all); have hlb : i < b.length := h ▸ hlt; refine idx_nat hlt rfl ?_; conv => whnf)
        | (refine idx_nat (h ▸ hlt) rfl ?_; conv => whnf))
    all_goals try simp only [List.length_map, Bool.not_eq_true', Bool.not_eq_false', Bool.and_eq_true, Bool.and_eq_false_iff, decide_eq_true_eq, decide_eq_false_iff_not] at *
    · refine congrArg AV.bool ?_
      symm; rw [decide_eq_false_iff_not]
      refine ne_of_get hlt hlb fun e => ?_
      simp_all
    · refine ⟨i + 1, ⟨hlt, take_succ_eq hlt hlb hp ?_⟩, by omega, by rw [wrap_succ (by omega)]; rfl, rfl⟩
      have h2 : a[i].kind = b[i].kind ∧ a[i].num = b[i].num := by simp_all
      cases h3 : a[i]; cases h4 : b[i]; rw [h3, h4] at h2; simp_all
    · refine congrArg AV.bool ?_
      symm; rw [decide_eq_true_eq]; exact eq_of_take h (by omega) hp

theorem samePolicy_c (p q : Policy) (ha : p.list.length < 4611686018427387904) : PureCall Try.prog F.ref21_SamePolicy [.agg p.enc, .agg q.enc] (.bool (decide (p = q))) := by
  refine contractS fits K.ref21_SamePolicy ?_
  repeat' (first
    | ((with_reducible refine step ?_); conv => whnf)
    | (refine call_pure (same18_c _ _ ha) rfl rfl ?_; conv => whnf)
    | (with_reducible refine And.intro (fun h => ?_) (fun h => ?_)))
  all_goals refine congrArg AV.bool ?_
  all_goals cases p; cases q; simp_all

/-- a policy's number in a list, or none -/
def polIdx (ps : List Policy) (node binding : Int) : Option Nat := ps.findIdx? fun p => decide (p.node = node) && decide (p.binding = binding)
theorem findIdx_none {α : Type} {p : α → Bool} {l : List α} {i : Nat} (hi : l.length ≤ i) (h : ∀ x ∈ l.take i, p x = false) : l.findIdx? p = none := by
  rw [List.take_of_length_le hi] at h; rw [List.findIdx?_eq_none_iff]; exact h
theorem findIdx_some {α : Type} {p : α → Bool} {l : List α} {i : Nat} (hi : i < l.length) (h : ∀ x ∈ l.take i, p x = false) (hp : p l[i] = true) : l.findIdx? p = some i := by
  rw [List.findIdx?_eq_some_iff_getElem]
  refine ⟨hi, hp, fun j hj => ?_⟩
  have := h l[j] (List.mem_take_iff_getElem.2 ⟨j, by omega, rfl⟩)
  simp [this]
theorem none_take_succ {α : Type} {p : α → Bool} {l : List α} {i : Nat} (hi : i < l.length) (h : ∀ x ∈ l.take i, p x = false) (hp : p l[i] = false) : ∀ x ∈ l.take (i + 1), p x = false := by
  intro x hx
  rw [List.take_succ_eq_append_getElem hi, List.mem_append] at hx
  rcases hx with hx | hx
  · exact h x hx
  · simp at hx; subst hx; exact hp

theorem index21_c (ps : List Policy) (node binding : Int) (hl : ps.length < 4611686018427387904) :
    PureCall Try.prog F.ref21_index [asl (ps.map Policy.enc), ai node, ai binding] (ai (match polIdx ps node binding with | some i => (i : Int) | none => -1)) := by
  refine contractS fits K.ref21_index ?_
  repeat' (first
    | ((with_reducible refine step ?_); conv => whnf)
    | (with_reducible refine And.intro (fun h => ?_) (fun h => ?_)))
  refine loop_invS (fun i => i ≤ ps.length ∧ ∀ p ∈ ps.take i, (decide (p.node = node) && decide (p.binding = binding)) = false) [0, 1, 2, 7] 0 (fun i => [(7, ai i)]) (fun _ => []) (fun i => ps.length - i) 0 (by decide) (by decide) ?_
  conv => whnf
  refine ⟨rfl, rfl, by simp, fun i ⟨hi, hp⟩ => ?_⟩
  repeat' (first
        | ((with_reducible refine step ?_); conv => whnf)
        | (with_reducible refine And.intro (fun _ => ?_) (fun _ => ?_))
        | (refine idx_nat hlt rfl ?_; conv => whnf)
        | (have hlt : i < ps.length := (by simp_all); refine idx_nat hlt rfl ?_; conv => whnf))
  all_goals try simp only [List.length_map, Bool.not_eq_true', Bool.not_eq_false', decide_eq_true_eq, decide_eq_false_iff_not] at *
  all_goals first
    | exact ⟨i + 1, ⟨hlt, none_take_succ hlt hp (by simp_all)⟩, by omega, by rw [wrap_succ (by omega)]; rfl, rfl⟩
    | (refine congrArg ai ?_; rw [polIdx, findIdx_some hlt hp (by simp_all)]; done)
    | (refine congrArg ai ?_; rw [polIdx, findIdx_none (by omega) hp]; done)

def polFind (ps : List Policy) (node binding : Int) : Option Policy := (polIdx ps node binding).bind fun i => ps[i]?
theorem polFind_none {ps : List Policy} {node binding : Int} (h : polIdx ps node binding = none) : polFind ps node binding = none := by simp [polFind, h]
theorem polFind_some {ps : List Policy} {node binding : Int} {i : Nat} (hi : i < ps.length) (h : polIdx ps node binding = some i) : polFind ps node binding = some ps[i] := by simp [polFind, h, hi]
def polOr (p : Option Policy) : Policy := p.getD ⟨0, 0, []⟩

theorem find_c (ps : List Policy) (node binding : Int) (hl : ps.length < 4611686018427387904) :
    PureCall Try.prog F.policy_Find [asl (ps.map Policy.enc), ai node, ai binding] (.tuple [.agg (polOr (polFind ps node binding)).enc, .bool (polFind ps node binding).isSome]) := by
  refine contractS fits K.policy_Find ?_
  repeat' (first
    | ((with_reducible refine step ?_); conv => whnf)
    | (with_reducible refine And.intro (fun h => ?_) (fun h => ?_)))
  refine loop_invS (fun i => i ≤ ps.length ∧ ∀ p ∈ ps.take i, (decide (p.node = node) && decide (p.binding = binding)) = false) [1, 2, 6, 10, 11, 12] 1 (fun i => [(12, ai i)]) (fun _ => []) (fun i => ps.length - i) 0 (by decide) (by decide) ?_
  conv => whnf
  refine ⟨rfl, rfl, by simp, fun i ⟨hi, hp⟩ => ?_⟩
  repeat' (first
        | ((with_reducible refine step ?_); conv => whnf)
        | (with_reducible refine And.intro (fun _ => ?_) (fun _ => ?_))
        | (refine idx_nat hlt rfl ?_; conv => whnf)
        | (have hlt : i < ps.length := (by simp_all); refine idx_nat hlt rfl ?_; conv => whnf))
  all_goals try simp only [List.length_map, Bool.not_eq_true', Bool.not_eq_false', decide_eq_true_eq, decide_eq_false_iff_not] at *
  all_goals first
    | exact ⟨i + 1, ⟨hlt, none_take_succ hlt hp (by simp_all)⟩, by omega, by rw [wrap_succ (by omega)]; rfl, rfl⟩
    | (rw [polFind_some hlt (by rw [polIdx, findIdx_some hlt hp (by simp_all)])]; rfl)
    | (rw [polFind_none (by rw [polIdx, findIdx_none (by omega) hp])]; rfl)
theorem find21_c (ps : List Policy) (node binding : Int) (hl : ps.length < 4611686018427387904) :
    PureCall Try.prog F.ref21_Find [asl (ps.map Policy.enc), ai node, ai binding] (.tuple [.agg (polOr (polFind ps node binding)).enc, .bool (polFind ps node binding).isSome]) := by
  refine contractS fits K.ref21_Find ?_
  cases hi : polIdx ps node binding with
  | none =>
    repeat' (first
      | ((with_reducible refine step ?_); conv => whnf)
      | (refine call_pure (index21_c _ _ _ hl) rfl rfl ?_; rw [hi]; conv => whnf)
      | (with_reducible refine And.intro (fun h => ?_) (fun h => ?_))
      | fail)
    · rw [polFind_none hi]; rfl
    · simp at h
  | some i =>
    have hlt : i < ps.length := by
      have := List.findIdx?_eq_some_iff_getElem.1 hi
      exact this.1
    repeat' (first
      | ((with_reducible refine step ?_); conv => whnf)
      | (refine call_pure (index21_c _ _ _ hl) rfl rfl ?_; rw [hi]; conv => whnf)
      | (with_reducible refine And.intro (fun h => ?_) (fun h => ?_))
      | (refine idx_nat hlt rfl ?_; conv => whnf))
    · simp at h; omega
    · rw [polFind_some hlt hi]; rfl

theorem has9_c (l : List Int) (n : Int) (hl : l.length < 4611686018427387904) : PureCall Try.prog F.ref09_Has [asl (l.map eInt), ai n] (.bool (l.contains n)) := by
  refine contractS fits K.ref09_Has ?_
  repeat' (first
    | ((with_reducible refine step ?_); conv => whnf)
    | (with_reducible refine And.intro (fun h => ?_) (fun h => ?_)))
  refine loop_invS (fun i => i ≤ l.length ∧ ∀ p ∈ l.take i, decide (p = n) = false) [0, 1, 5] 0 (fun i => [(5, ai i)]) (fun _ => []) (fun i => l.length - i) 0 (by decide) (by decide) ?_
  conv => whnf
  refine ⟨rfl, rfl, by simp, fun i ⟨hi, hp⟩ => ?_⟩
  repeat' (first
        | ((with_reducible refine step ?_); conv => whnf)
        | (with_reducible refine And.intro (fun _ => ?_) (fun _ => ?_))
        | (have hlt : i < l.length := (by simp_all); refine idx_nat hlt rfl ?_; conv => whnf))
  all_goals try simp only [List.length_map, Bool.not_eq_true', Bool.not_eq_false', decide_eq_true_eq, decide_eq_false_iff_not] at *
  · refine congrArg AV.bool ?_
    symm; rw [List.contains_iff_mem]; rename_i h; rw [← h]; exact List.getElem_mem hlt
  · exact ⟨i + 1, ⟨hlt, fun x hx => by have := none_take_succ (p := fun x => decide (x = n)) hlt (by simpa using hp) (by simpa using ‹¬ l[i] = n›) x hx; simpa using this⟩, by omega, by rw [wrap_succ (by omega)]; rfl, rfl⟩
  · refine congrArg AV.bool ?_
    rw [List.take_of_length_le (by omega)] at hp
    symm; rw [Bool.eq_false_iff]; intro hc; exact hp n (List.contains_iff_mem.1 hc) rfl
end Go.Proofs.Ytmapiefbnjaikaa.Vm
/- Contracts: valid policies. -/
set_option linter.all false
namespace Go.Proofs.Ytmapiefbnjaikaa.Vm
open Go
set_option maxRecDepth 100000

def Policy.key (p : Policy) : Int × Int := (p.node, p.binding)
def Policy.good (t : Topology) (p : Policy) : Bool := decide (0 ≤ p.node) && decide (p.node < t.nodes) && decide (0 ≤ p.binding) && decide (p.binding ≤ 65535) && decide (p.list.length ≤ 32) && p.list.all (·.valid t)
def polsValid (t : Topology) (ps : List Policy) : Bool := t.valid && ps.all (·.good t) && decide ((ps.map Policy.key).Nodup)

def seenL (ps : List Policy) : List ((Int × Int) × Bool) := ps.map fun p => (p.key, true)
theorem seenL_keys (ps : List Policy) : (seenL ps).map (·.1) = ps.map Policy.key := by simp [seenL, Function.comp_def]
theorem seenL_lookup {ps : List Policy} {k : Int × Int} : (seenL ps).lookup k = none ↔ k ∉ ps.map Policy.key := by rw [lookup_none, seenL_keys]
theorem seenL_val {ps : List Policy} {k : Int × Int} {b : Bool} (h : (seenL ps).lookup k = some b) : b = true ∧ k ∈ ps.map Policy.key := by
  induction ps with
  | nil => simp [seenL] at h
  | cons p ps ih =>
    simp only [seenL, List.map_cons, List.lookup_cons] at h
    by_cases hk : k = p.key
    · subst hk; simp at h; simp [h]
    · have : (k == p.key) = false := by simp [hk]
      rw [this] at h
      obtain ⟨h1, h2⟩ := ih h
      exact ⟨h1, by simp [h2]⟩

theorem nodup_take_succ {ps : List Policy} {i : Nat} (hi : i < ps.length) (h : ((ps.take i).map Policy.key).Nodup) (hk : ps[i].key ∉ (ps.take i).map Policy.key) : ((ps.take (i + 1)).map Policy.key).Nodup := by
  rw [List.take_succ_eq_append_getElem hi, List.map_append, List.nodup_append]
  refine ⟨h, by simp, fun a ha b hb => ?_⟩
  simp at hb; subst hb
  exact fun e => hk (e ▸ ha)
theorem dup_all {ps : List Policy} {i : Nat} (hi : i < ps.length) (hk : ps[i].key ∈ (ps.take i).map Policy.key) : ¬ (ps.map Policy.key).Nodup := by
  intro hn
  have : ps = ps.take i ++ ps[i] :: ps.drop (i + 1) := by rw [← List.drop_eq_getElem_cons hi, List.take_append_drop]
  rw [this, List.map_append, List.nodup_append] at hn
  exact hn.2.2 _ hk ps[i].key (List.mem_map.2 ⟨_, List.mem_cons_self, rfl⟩) rfl

def eB (b : Bool) : AV := .bool b
theorem seen_put {ps : List Policy} {i : Nat} (hi : i < ps.length) (h : (seenL (ps.take i)).lookup ps[i].key = none) : putM ks2 (.agg [ai ps[i].node, ai ps[i].binding]) (.bool true) (eMap eB (seenL (ps.take i))) = eMap eB (seenL (ps.take (i + 1))) := by
  have := putM2 ps[i].key eB true _ h
  rw [List.take_succ_eq_append_getElem hi, show seenL (ps.take i ++ [ps[i]]) = seenL (ps.take i) ++ [(ps[i].key, true)] by unfold seenL; rw [List.map_append]; rfl]
  exact this

theorem polsValid_c (t : Topology) (ps : List Policy) (hl : ps.length < 4611686018427387904) (hls : ∀ p ∈ ps, p.list.length < 4611686018427387904) : PureCall Try.prog F.policy_Valid [.agg t.enc, asl (ps.map Policy.enc)] (.bool (polsValid t ps)) := by
  refine contractS fits K.policy_Valid ?_
  repeat' (first
    | ((with_reducible refine step ?_); conv => whnf)
    | (refine call_pure (valid_c _) rfl rfl ?_; conv => whnf)
    | (with_reducible refine And.intro (fun h => ?_) (fun h => ?_))
    | fail)
  · refine congrArg AV.bool ?_
    simp at h; simp [polsValid, h]
  · simp at h
    refine loop_invS (fun i => i ≤ ps.length ∧ (∀ p ∈ ps.take i, p.good t = true) ∧ ((ps.take i).map Policy.key).Nodup) [2, 5, 13, 14, 15] 2 (fun i => [(15, ai i)]) (fun i => [(1, .map 0 0 (eMap eB (seenL (ps.take i))))]) (fun i => ps.length - i) 0 (by decide) (by decide) ?_
    conv => whnf
    refine ⟨rfl, rfl, by simp, fun i ⟨hi, hp, hn⟩ => ?_⟩
    repeat' (first
        | ((with_reducible refine step ?_); conv => whnf)
        | (with_reducible refine And.intro (fun h => ?_) (fun h => ?_))
        | (refine idx_nat hlt rfl ?_; conv => whnf)
        | (have hlt : i < ps.length := (by simp_all); refine idx_nat hlt rfl ?_; conv => whnf)
        | (refine call_pure (segsValid_c _ _ (hls _ (List.getElem_mem hlt))) rfl rfl ?_; conv => whnf)
        | (refine look2 ps[i].key eB _ (fun hlk => ?_) (fun b hlk => ?_) <;> (conv => whnf))
        | (refine And.intro (hasKs2 ps[i].key eB _) ?_; (conv => whnf))
        | fail)
    all_goals try simp only [List.length_map, Bool.not_eq_true', Bool.not_eq_false', decide_eq_true_eq, decide_eq_false_iff_not] at *
    all_goals first
      | (refine congrArg AV.bool ?_; rw [polsValid, all_false hlt (by simp [Policy.good]; omega), Bool.and_false, Bool.false_and]; done)
      | (refine congrArg AV.bool ?_; rw [polsValid, decide_eq_false (dup_all hlt (seenL_val hlk).2), Bool.and_false]; done)
      | (refine congrArg AV.bool ?_; rw [polsValid, all_false hlt (by simp_all [Policy.good]), Bool.and_false, Bool.false_and]; done)
      | (refine congrArg AV.bool ?_; rw [polsValid, all_true (by omega) hp, ‹t.valid = true›]; rw [List.take_of_length_le (by omega)] at hn; simp [hn]; done)
      | (refine ⟨i + 1, ⟨hlt, all_take_succ hlt hp ?_, nodup_take_succ hlt hn (seenL_lookup.1 hlk)⟩, by omega, by rw [wrap_succ (by omega)]; rfl, ?_⟩
         · simp only [Policy.good, Bool.and_eq_true, decide_eq_true_eq]; exact ⟨⟨⟨⟨⟨by omega, by omega⟩, by omega⟩, by omega⟩, by omega⟩, h⟩
         · rw [← seen_put hlt hlk]; rfl)
      | (have := (seenL_val hlk).1; simp_all; done)

theorem polsValid21_c (t : Topology) (ps : List Policy) (hl : ps.length < 4611686018427387904) (hls : ∀ p ∈ ps, p.list.length < 4611686018427387904) : PureCall Try.prog F.ref21_Valid [.agg t.enc, asl (ps.map Policy.enc)] (.bool (polsValid t ps)) := by
  refine contractS fits K.ref21_Valid ?_
  repeat' (first
    | ((with_reducible refine step ?_); conv => whnf)
    | (refine call_pure (valid9_c _) rfl rfl ?_; conv => whnf)
    | (with_reducible refine And.intro (fun h => ?_) (fun h => ?_))
    | fail)
  · refine congrArg AV.bool ?_
    simp at h; simp [polsValid, h]
  · simp at h
    refine loop_invS (fun i => i ≤ ps.length ∧ (∀ p ∈ ps.take i, p.good t = true) ∧ ((ps.take i).map Policy.key).Nodup) [1, 2, 5] 1 (fun i => [(5, ai i)]) (fun i => []) (fun i => ps.length - i) 0 (by decide) (by decide) ?_
    conv => whnf
    refine ⟨rfl, rfl, by simp, fun i ⟨hi, hp, hn⟩ => ?_⟩
    repeat' (first
        | ((with_reducible refine step ?_); conv => whnf)
        | (with_reducible refine And.intro (fun h => ?_) (fun h => ?_))
        | (refine idx_nat hlt rfl ?_; conv => whnf)
        | (have hlt : i < ps.length := (by simp_all); refine idx_nat hlt rfl ?_; conv => whnf)
        | (refine call_pure (segsValid21_c _ _ (hls _ (List.getElem_mem hlt))) rfl rfl ?_; conv => whnf)
        | fail)
    all_goals first
      | (refine loop_invS (fun k => k ≤ i ∧ ∀ p ∈ ps.take k, (decide (p.node = ps[i].node) && decide (p.binding = ps[i].binding)) = false) [1, 2, 5, 6, 7] 2 (fun k => [(7, ai k)]) (fun i => []) (fun k => i - k) 0 (by decide) (by decide) ?_
         (conv => whnf)
         refine ⟨rfl, rfl, by simp, fun k ⟨hk, hq⟩ => ?_⟩
         repeat' (first
          | ((with_reducible refine step ?_); conv => whnf)
          | (with_reducible refine And.intro (fun h => ?_) (fun h => ?_))
          | (refine idx_nat hkl rfl ?_; conv => whnf)
          | (have hki : k < i := (by simp_all); have hkl : k < ps.length := (by omega); refine idx_nat hkl rfl ?_; conv => whnf)
          | fail))
      | skip
    all_goals try simp only [List.length_map, Bool.not_eq_true', Bool.not_eq_false', decide_eq_true_eq, decide_eq_false_iff_not] at *
    all_goals first
      | (refine congrArg AV.bool ?_; rw [polsValid, all_false hlt (by simp [Policy.good]; omega), Bool.and_false, Bool.false_and]; done)
      | (refine ⟨k + 1, ⟨hki, none_take_succ hkl hq (by simp_all)⟩, by omega, by rw [wrap_succ (by omega)]; rfl, rfl⟩; done)
      | (refine congrArg AV.bool ?_; rw [polsValid, decide_eq_false (dup_all hlt (List.mem_map.2 ⟨ps[k], List.mem_take_iff_getElem.2 ⟨k, by omega, rfl⟩, by simp_all [Policy.key]⟩)), Bool.and_false]; done)
      | (refine congrArg AV.bool ?_; rw [polsValid, all_true (by omega) hp, ‹t.valid = true›]; rw [List.take_of_length_le (by omega)] at hn; simp [hn]; done)
      | (refine ⟨i + 1, ⟨hlt, all_take_succ hlt hp ?_, nodup_take_succ hlt hn ?_⟩, by omega, by rw [wrap_succ (by omega)]; rfl, rfl⟩
         · simp only [Policy.good, Bool.and_eq_true, decide_eq_true_eq]; exact ⟨⟨⟨⟨⟨by omega, by omega⟩, by omega⟩, by omega⟩, by omega⟩, by assumption⟩
         · intro hm
           obtain ⟨p, hp1, hp2⟩ := List.mem_map.1 hm
           have hki : k = i := by omega
           subst hki
           have := hq p hp1
           simp_all [Policy.key])
      | (refine congrArg AV.bool ?_; rw [polsValid, all_false hlt (by simp_all [Policy.good]), Bool.and_false, Bool.false_and]; done)
end Go.Proofs.Ytmapiefbnjaikaa.Vm
/- Contracts: the reference's expansion. -/
set_option linter.all false
namespace Go.Proofs.Ytmapiefbnjaikaa.Vm
open Go
set_option maxRecDepth 100000

/-- an expansion under way: what was kept, and where it stands -/
structure Exp where
  out : List Segment
  at_ : Int
def Exp.enc (s : Exp) : List AV := [asl (s.out.map Segment.enc), ai s.at_]
def Exp.keep (s : Exp) (x : Segment) (a : Int) : Exp × Int := if 32 ≤ s.out.length then (s, 6) else (⟨s.out ++ [x], a⟩, 0)
def eER (r : Exp × Int) : AV := .tuple [.agg r.1.enc, ai r.2]
theorem Exp.keep_len {s : Exp} {x : Segment} {a : Int} (h : s.out.length ≤ 32) : (s.keep x a).1.out.length ≤ 32 := by
  unfold Exp.keep; split
  · exact h
  · simp; omega

theorem keep21_c (s : Exp) (x : Segment) (a : Int) (h32 : s.out.length ≤ 32) : PureCall Try.prog F.ref21_state_keep [.agg s.enc, .agg x.enc, ai a] (eER (s.keep x a)) := by
  refine contractS fits K.ref21_state_keep ?_
  repeat' (first
    | ((with_reducible refine step ?_); conv => whnf)
    | (with_reducible refine And.intro (fun h => ?_) (fun h => ?_))
    | (refine And.intro ?_ ?_; (focus (simp [elemsOk, AV.oneC, big, Segment.enc]; (try omega); done)); conv => whnf)
    | fail)
  · simp at h
    simp [Exp.keep, eER, show 32 ≤ s.out.length by omega, Exp.enc]
  · simp at h
    simp [Exp.keep, eER, show ¬ 32 ≤ s.out.length by omega, Exp.enc, Segment.enc]

def runL (f : Exp → Segment → Exp × Int) : Exp → List Segment → Exp × Int
  | s, [] => (s, 0)
  | s, x :: l => if (f s x).2 ≠ 0 then f s x else runL f (f s x).1 l

/-- a segment is processed; opn: the policies that are being expanded; deep: what becomes of a policy's list -/
def oneG (t : Topology) (ps : List Policy) (opn : List Nat) (s : Exp) (x : Segment) (deep : Nat → Exp × Int) : Exp × Int :=
  if x.kind = 1 then s.keep x x.num
  else if x.kind = 3 then s.keep x (-1)
  else if s.at_ < 0 then (s, 7)
  else if x.kind = 2 then (if t.tail x.num ≠ s.at_ then (s, 4) else s.keep x (t.head x.num))
  else match polIdx ps s.at_ x.num with
    | none => (s, 8)
    | some i => if i ∈ opn then (s, 16) else deep i
def one21 (t : Topology) (ps : List Policy) : Nat → List Nat → Exp → Segment → Exp × Int
  | 0, opn, s, x => oneG t ps opn s x fun _ => (s, 16)
  | n + 1, opn, s, x => oneG t ps opn s x fun i => runL (one21 t ps n (opn ++ [i])) s (ps.getD i default).list
def ints (opn : List Nat) : List Int := opn.map fun (i : Nat) => (i : Int)
def eOpn (opn : List Nat) : AV := asl ((ints opn).map eInt)

theorem runL_len {f : Exp → Segment → Exp × Int} (hf : ∀ s x, s.out.length ≤ 32 → (f s x).1.out.length ≤ 32) : ∀ (l : List Segment) (s : Exp), s.out.length ≤ 32 → (runL f s l).1.out.length ≤ 32 := by
  intro l
  induction l with
  | nil => intro s h; exact h
  | cons x l ih =>
    intro s h
    unfold runL; split
    · exact hf s x h
    · exact ih _ (hf s x h)
theorem oneG_len {t : Topology} {ps : List Policy} {opn : List Nat} {s : Exp} {x : Segment} {deep : Nat → Exp × Int} (h : s.out.length ≤ 32) (hd : ∀ i, (deep i).1.out.length ≤ 32) : (oneG t ps opn s x deep).1.out.length ≤ 32 := by
  unfold oneG
  repeat' split
  all_goals first | exact h | exact Exp.keep_len h | exact hd _
theorem one21_len (t : Topology) (ps : List Policy) : ∀ (n : Nat) (opn : List Nat) (s : Exp) (x : Segment), s.out.length ≤ 32 → (one21 t ps n opn s x).1.out.length ≤ 32 := by
  intro n
  induction n with
  | zero => intro opn s x h; exact oneG_len h fun _ => h
  | succ n ih => intro opn s x h; exact oneG_len h fun i => runL_len (fun s x h => ih _ s x h) _ _ h

/-- what the recursion needs -/
structure OpnOk (ps : List Policy) (opn : List Nat) (n : Nat) : Prop where
  nodup : opn.Nodup
  lt : ∀ i ∈ opn, i < ps.length
  fuel : ps.length ≤ opn.length + n
theorem nodup_len : ∀ {n : Nat} {l : List Nat}, l.Nodup → (∀ i ∈ l, i < n) → l.length ≤ n := by
  intro n l h1 h2
  have : l ⊆ List.range n := fun i hi => List.mem_range.2 (h2 i hi)
  have := List.Nodup.length_le_of_subset h1 this
  simpa using this
theorem OpnOk.succ {ps : List Policy} {opn : List Nat} {n i : Nat} (h : OpnOk ps opn (n + 1)) (hi : i < ps.length) (hn : i ∉ opn) : OpnOk ps (opn ++ [i]) n :=
  ⟨by rw [List.nodup_append]; exact ⟨h.nodup, by simp, fun a ha b hb => by simp at hb; subst hb; exact fun e => hn (e ▸ ha)⟩, fun j hj => by
    rcases List.mem_append.1 hj with hj | hj
    · exact h.lt j hj
    · simp at hj; omega, by have := h.fuel; simp; omega⟩
theorem OpnOk.zero {ps : List Policy} {opn : List Nat} {i : Nat} (h : OpnOk ps opn 0) (hi : i < ps.length) (hn : i ∉ opn) : False := by
  have h1 := h.fuel
  have := nodup_len (n := ps.length) (l := opn ++ [i]) (by rw [List.nodup_append]; exact ⟨h.nodup, by simp, fun a ha b hb => by simp at hb; subst hb; exact fun e => hn (e ▸ ha)⟩) (fun j hj => by
    rcases List.mem_append.1 hj with hj | hj
    · exact h.lt j hj
    · simp at hj; omega)
  simp at this; omega

theorem polIdx_lt {ps : List Policy} {a b : Int} {i : Nat} (h : polIdx ps a b = some i) : i < ps.length := (List.findIdx?_eq_some_iff_getElem.1 h).1
theorem has_opn {opn : List Nat} {i : Nat} : (ints opn).contains (i : Int) = decide (i ∈ opn) := by
  rw [Bool.eq_iff_iff, List.contains_iff_mem, decide_eq_true_eq]
  simp only [ints, List.mem_map]
  exact ⟨fun ⟨a, h, e⟩ => (show a = i by omega) ▸ h, fun h => ⟨i, h, rfl⟩⟩

/-- .. one step, where lists of deeper ones have their contract -/
theorem oneG_c (t : Topology) (ps : List Policy) (hl : ps.length < 4611686018427387904) (hls : ∀ p ∈ ps, p.list.length < 4611686018427387904) (opn : List Nat) (s : Exp) (x : Segment) (h32 : s.out.length ≤ 32) (hop : opn.length ≤ ps.length) (h1000 : ps.length ≤ 1000) (deep : Nat → Exp × Int)
    (hall : ∀ i (hi : i < ps.length), i ∉ opn → PureCall Try.prog F.ref21_all [.agg t.enc, asl (ps.map Policy.enc), .agg s.enc, asl (ps[i].list.map Segment.enc), asl ((ints opn).map eInt ++ [[ai (i : Int)]])] (eER (deep i))) :
    PureCall Try.prog F.ref21_one [.agg t.enc, asl (ps.map Policy.enc), .agg s.enc, .agg x.enc, eOpn opn] (eER (oneG t ps opn s x deep)) := by
  refine contractS fits K.ref21_one ?_
  have hin : (ints opn).length = opn.length := by simp [ints]
  rcases hpi : polIdx ps s.at_ x.num with _ | i
  · repeat' (first
      | ((with_reducible refine step ?_); conv => whnf)
      | (with_reducible refine And.intro (fun h => ?_) (fun h => ?_))
      | (refine call_pure (keep21_c s x _ h32) rfl rfl ?_; conv => whnf)
      | (refine call_pure (tail9_c _ _) rfl rfl ?_; conv => whnf)
      | (refine call_pure (head9_c _ _) rfl rfl ?_; conv => whnf)
      | (refine call_pure (index21_c ps s.at_ x.num hl) rfl rfl ?_; rw [hpi]; conv => whnf)
      | fail)
    all_goals simp only [decide_eq_true_eq, decide_eq_false_iff_not, decide_not, Bool.not_eq_true', Bool.not_eq_false'] at *
    all_goals first
      | (simp only [oneG, *, ↓reduceIte, not_false_eq_true, not_true_eq_false, ne_eq]; done)
      | (simp only [oneG, *, ↓reduceIte, not_false_eq_true, not_true_eq_false, ne_eq]; rfl)
      | (exfalso; omega)
  · have hil := polIdx_lt hpi
    have hgd : ps.getD i default = ps[i] := by simp [hil]
    repeat' (first
      | ((with_reducible refine step ?_); conv => whnf)
      | (with_reducible refine And.intro (fun h => ?_) (fun h => ?_))
      | (refine call_pure (keep21_c s x _ h32) rfl rfl ?_; conv => whnf)
      | (refine call_pure (tail9_c _ _) rfl rfl ?_; conv => whnf)
      | (refine call_pure (head9_c _ _) rfl rfl ?_; conv => whnf)
      | (refine call_pure (index21_c ps s.at_ x.num hl) rfl rfl ?_; rw [hpi]; conv => whnf)
      | (refine call_pure (has9_c (ints opn) i (by omega)) rfl rfl ?_; rw [has_opn]; conv => whnf)
      | (refine idx_nat hil rfl ?_; conv => whnf)
      | (refine And.intro ?_ ?_; (focus (simp [elemsOk, AV.oneC, big, eInt]; (try omega); done)); conv => whnf)
      | (refine call_pure (hall i hil (by simpa using h)) rfl rfl ?_; conv => whnf)
      | fail)
    all_goals simp only [decide_eq_true_eq, decide_eq_false_iff_not, decide_not, Bool.not_eq_true', Bool.not_eq_false'] at *
    all_goals first
      | (simp only [oneG, *, ↓reduceIte, not_false_eq_true, not_true_eq_false, ne_eq]; done)
      | (simp only [oneG, *, ↓reduceIte, not_false_eq_true, not_true_eq_false, ne_eq]; rfl)
      | (exfalso; omega)

section
variable (t : Topology) (ps : List Policy) (hl : ps.length < 4611686018427387904) (hls : ∀ p ∈ ps, p.list.length < 4611686018427387904) (h1000 : ps.length ≤ 1000)

theorem runL_snoc {f : Exp → Segment → Exp × Int} : ∀ (l : List Segment) (s : Exp) (x : Segment), (runL f s l).2 = 0 → runL f s (l ++ [x]) = runL f (runL f s l).1 [x] := by
  intro l
  induction l with
  | nil => intro s x _; rfl
  | cons y l ih =>
    intro s x h
    unfold runL at h
    show (if (f s y).2 ≠ 0 then f s y else runL f (f s y).1 (l ++ [x])) = _
    split at h
    · contradiction
    · rename_i he
      rw [if_neg he, ih _ _ h]
      show _ = runL f (if (f s y).2 ≠ 0 then f s y else runL f (f s y).1 l).1 [x]
      rw [if_neg he]
theorem runL_err {f : Exp → Segment → Exp × Int} : ∀ (l : List Segment) (s : Exp) (l' : List Segment), (runL f s l).2 ≠ 0 → runL f s (l ++ l') = runL f s l := by
  intro l
  induction l with
  | nil => intro s l' h; exact (h rfl).elim
  | cons y l ih =>
    intro s l' h
    show (if (f s y).2 ≠ 0 then f s y else runL f (f s y).1 (l ++ l')) = _
    unfold runL at h
    have e0 : runL f s (y :: l) = if (f s y).2 ≠ 0 then f s y else runL f (f s y).1 l := rfl
    rw [e0]
    split at h
    · rename_i he; rw [if_pos he, if_pos he]
    · rename_i he; rw [if_neg he, if_neg he]; exact ih _ _ h
theorem runL_at {f : Exp → Segment → Exp × Int} {l : List Segment} {s : Exp} {i : Nat} (hi : i < l.length) (h : (runL f s (l.take i)).2 = 0) :
    runL f s (l.take (i + 1)) = (if (f (runL f s (l.take i)).1 l[i]).2 ≠ 0 then f (runL f s (l.take i)).1 l[i] else ((f (runL f s (l.take i)).1 l[i]).1, 0)) := by
  rw [List.take_succ_eq_append_getElem hi, runL_snoc _ _ _ h]; rfl
theorem runL_stop {f : Exp → Segment → Exp × Int} {l : List Segment} {s : Exp} {i : Nat} (hi : i < l.length) (h : (runL f s (l.take i)).2 = 0) (he : (f (runL f s (l.take i)).1 l[i]).2 ≠ 0) : runL f s l = f (runL f s (l.take i)).1 l[i] := by
  have := runL_at hi h
  rw [if_pos he] at this
  have h2 := runL_err (f := f) (l.take (i + 1)) s (l.drop (i + 1)) (by rw [this]; exact he)
  rw [List.take_append_drop] at h2
  rw [h2, this]

theorem all21_c (f : Exp → Segment → Exp × Int) (opn : List Nat) (hf : ∀ (s : Exp) (x : Segment), s.out.length ≤ 32 → (f s x).1.out.length ≤ 32 ∧ PureCall Try.prog F.ref21_one [.agg t.enc, asl (ps.map Policy.enc), .agg s.enc, .agg x.enc, eOpn opn] (eER (f s x)))
    (s : Exp) (l : List Segment) (h32 : s.out.length ≤ 32) (hlen : l.length < 4611686018427387904) :
    PureCall Try.prog F.ref21_all [.agg t.enc, asl (ps.map Policy.enc), .agg s.enc, asl (l.map Segment.enc), eOpn opn] (eER (runL f s l)) := by
  refine contractS fits K.ref21_all ?_
  repeat' (first
      | ((with_reducible refine step ?_); conv => whnf)
      | fail)
  refine loop_invS (fun i => i ≤ l.length ∧ (runL f s (l.take i)).2 = 0) [1, 3, 4, 5, 7, 10, 12] 3 (fun i => [(12, ai i)]) (fun i => [(1, .box (runL f s (l.take i)).1.enc false)]) (fun i => l.length - i) 0 (by decide) (by decide) ?_
  conv => whnf
  refine ⟨rfl, rfl, ⟨by omega, rfl⟩, fun i ⟨hi, hp⟩ => ?_⟩
  have h32i : (runL f s (l.take i)).1.out.length ≤ 32 := runL_len (fun s x h => (hf s x h).1) _ _ h32
  repeat' (first
      | ((with_reducible refine step ?_); conv => whnf)
      | (with_reducible refine And.intro (fun h => ?_) (fun h => ?_))
      | (have hlt : i < l.length := (by simp_all); refine idx_nat hlt rfl ?_; conv => whnf)
      | (refine call_pure (hf (runL f s (l.take i)).1 l[i] h32i).2 rfl rfl ?_; conv => whnf)
      | fail)
  all_goals try simp only [List.length_map, Bool.not_eq_true', Bool.not_eq_false', decide_eq_true_eq, decide_eq_false_iff_not] at *
  · rw [runL_stop hlt hp h]; rfl
  · refine ⟨i + 1, ⟨hlt, ?_⟩, by omega, by rw [wrap_succ (by omega)]; rfl, ?_⟩
    · rw [runL_at hlt hp, if_neg (by simp [h])]
    · rw [runL_at hlt hp, if_neg (by simp [h])]; rfl
  · rw [List.take_of_length_le (by omega)] at hp ⊢
    rw [show eER (runL f s l) = eER ((runL f s l).1, (runL f s l).2) from rfl, hp]; rfl
end

theorem exp21_c (t : Topology) (ps : List Policy) (hls : ∀ p ∈ ps, p.list.length < 4611686018427387904) (h1000 : ps.length ≤ 1000) : ∀ (n : Nat) (opn : List Nat) (s : Exp) (x : Segment), OpnOk ps opn n → s.out.length ≤ 32 →
    PureCall Try.prog F.ref21_one [.agg t.enc, asl (ps.map Policy.enc), .agg s.enc, .agg x.enc, eOpn opn] (eER (one21 t ps n opn s x)) := by
  intro n
  induction n with
  | zero =>
    intro opn s x ho h32
    exact oneG_c t ps (by omega) hls opn s x h32 (nodup_len ho.nodup ho.lt) h1000 _ fun i hi hn => (ho.zero hi hn).elim
  | succ n ih =>
    intro opn s x ho h32
    refine oneG_c t ps (by omega) hls opn s x h32 (nodup_len ho.nodup ho.lt) h1000 _ fun i hi hn => ?_
    have ho' := ho.succ hi hn
    have hg : ps.getD i default = ps[i] := by simp [hi]
    have := all21_c t ps (one21 t ps n (opn ++ [i])) (opn ++ [i]) (fun s x h => ⟨one21_len t ps n _ s x h, ih _ s x ho' h⟩) s ps[i].list h32 (hls _ (List.getElem_mem hi))
    rw [hg]
    have he : eOpn (opn ++ [i]) = asl ((ints opn).map eInt ++ [[ai (i : Int)]]) := by simp [eOpn, ints, eInt]
    rw [he] at this
    exact this

/-- the expansion of a list, as the reference has it -/
def expand21 (t : Topology) (ps : List Policy) (node : Int) (l : List Segment) : List Segment × Int :=
  if polsValid t ps = false ∨ l.all (·.valid t) = false then ([], 1)
  else if node < 0 ∨ t.nodes ≤ node then ([], 2)
  else if (runL (one21 t ps ps.length []) ⟨[], node⟩ l).2 ≠ 0 then ([], (runL (one21 t ps ps.length []) ⟨[], node⟩ l).2) else ((runL (one21 t ps ps.length []) ⟨[], node⟩ l).1.out, 0)
theorem expand21_c (t : Topology) (ps : List Policy) (node : Int) (l : List Segment) (hls : ∀ p ∈ ps, p.list.length < 4611686018427387904) (h1000 : ps.length ≤ 1000) (hlen : l.length < 4611686018427387904) :
    PureCall Try.prog F.ref21_Expand [.agg t.enc, asl (ps.map Policy.enc), ai node, asl (l.map Segment.enc)] (.tuple [asl ((expand21 t ps node l).1.map Segment.enc), ai (expand21 t ps node l).2]) := by
  refine contractS fits K.ref21_Expand ?_
  have hall := all21_c t ps (one21 t ps ps.length []) [] (fun s x h => ⟨one21_len t ps _ _ s x h, exp21_c t ps hls h1000 ps.length [] s x ⟨.nil, by simp, by simp⟩ h⟩) ⟨[], node⟩ l (by simp) hlen
  repeat' (first
      | ((with_reducible refine step ?_); conv => whnf)
      | (with_reducible refine And.intro (fun h => ?_) (fun h => ?_))
      | (refine call_pure (polsValid21_c t ps (by omega) hls) rfl rfl ?_; conv => whnf)
      | (refine call_pure (segsValid21_c t l hlen) rfl rfl ?_; conv => whnf)
      | (refine call_pure hall rfl rfl ?_; conv => whnf)
      | fail)
  all_goals simp only [decide_eq_true_eq, decide_eq_false_iff_not, decide_not, Bool.not_eq_true', Bool.not_eq_false'] at *
  all_goals (simp only [expand21, *, ↓reduceIte, not_false_eq_true, not_true_eq_false, ne_eq, or_true, true_or, Bool.true_eq_false, or_self, or_false, false_or]; first | done | rfl)
end Go.Proofs.Ytmapiefbnjaikaa.Vm
/- Contracts: lists of numbers, arcs of a node. -/
set_option linter.all false
namespace Go.Proofs.Ytmapiefbnjaikaa.Vm
open Go
set_option maxRecDepth 100000

theorem sameInts_c (a b : List Int) (ha : a.length < 4611686018427387904) : PureCall Try.prog F.ref09_SameInts [asl (a.map eInt), asl (b.map eInt)] (.bool (decide (a = b))) := by
  refine contractS fits K.ref09_SameInts ?_
  repeat' (first
    | ((with_reducible refine step ?_); conv => whnf)
    | (with_reducible refine And.intro (fun h => ?_) (fun h => ?_)))
  · simp at h
    refine congrArg AV.bool ?_
    symm; rw [decide_eq_false_iff_not]; exact fun e => by subst e; exact h rfl
  · simp at h
    have h : a.length = b.length := by omega
    refine loop_invS (fun i => i ≤ a.length ∧ a.take i = b.take i) [0, 1, 5] 0 (fun i => [(5, ai i)]) (fun _ => []) (fun i => a.length - i) 0 (by decide) (by decide) ?_
    conv => whnf
    refine ⟨rfl, rfl, by simp, fun i ⟨hi, hp⟩ => ?_⟩
    repeat' (first
        | ((with_reducible refine step ?_); conv => whnf)
        | (with_reducible refine And.intro (fun _ => ?_) (fun _ => ?_))
        | (have hlt : i < a.length := (by simp_all); have hlb : i < b.length := h ▸ hlt; refine idx_nat hlt rfl ?_; conv => whnf)
        | (refine idx_nat (h ▸ hlt) rfl ?_; conv => whnf))
    all_goals try simp only [List.length_map, Bool.not_eq_true', Bool.not_eq_false', Bool.and_eq_true, Bool.and_eq_false_iff, decide_eq_true_eq, decide_eq_false_iff_not] at *
    · refine congrArg AV.bool ?_
      symm; rw [decide_eq_false_iff_not]
      refine ne_of_get hlt hlb fun e => ?_
      simp_all
    · refine ⟨i + 1, ⟨hlt, take_succ_eq hlt hlb hp (by assumption)⟩, by omega, by rw [wrap_succ (by omega)]; rfl, rfl⟩
    · refine congrArg AV.bool ?_
      symm; rw [decide_eq_true_eq]; exact eq_of_take h (by omega) hp

/-- where a number is -/
def idxF (l : List Int) (n : Int) : Int := match l.findIdx? fun x => decide (n = x) with
  | some i => i
  | none => -1
theorem index_c (l : List Int) (n : Int) (hl : l.length < 4611686018427387904) : PureCall Try.prog F.slices_Index_int [asl (l.map eInt), ai n] (ai (idxF l n)) := by
  refine contractS fits K.slices_Index_int ?_
  repeat' (first
    | ((with_reducible refine step ?_); conv => whnf)
    | (with_reducible refine And.intro (fun h => ?_) (fun h => ?_)))
  refine loop_invS (fun i => i ≤ l.length ∧ ∀ p ∈ l.take i, decide (n = p) = false) [0, 1, 7, 8] 0 (fun i => [(8, ai i)]) (fun _ => []) (fun i => l.length - i) 0 (by decide) (by decide) ?_
  conv => whnf
  refine ⟨rfl, rfl, by simp, fun i ⟨hi, hp⟩ => ?_⟩
  repeat' (first
        | ((with_reducible refine step ?_); conv => whnf)
        | (with_reducible refine And.intro (fun h => ?_) (fun h => ?_))
        | (have hlt : i < l.length := (by simp_all); refine idx_nat hlt rfl ?_; conv => whnf))
  all_goals try simp only [List.length_map, Bool.not_eq_true', Bool.not_eq_false', decide_eq_true_eq] at *
  · rw [idxF, findIdx_some hlt hp (by simp; assumption)]
  · exact ⟨i + 1, ⟨hlt, none_take_succ hlt hp (by assumption)⟩, by omega, by rw [wrap_succ (by omega)]; rfl, rfl⟩
  · simp only [decide_eq_false_iff_not] at h
    rw [idxF, findIdx_none (by omega) hp]
theorem contains_c (l : List Int) (n : Int) (hl : l.length < 4611686018427387904) : PureCall Try.prog F.slices_Contains_int [asl (l.map eInt), ai n] (.bool (l.contains n)) := by
  refine contractS fits K.slices_Contains_int ?_
  repeat' (first
    | ((with_reducible refine step ?_); conv => whnf)
    | (refine call_pure (index_c l n hl) rfl rfl ?_; conv => whnf)
    | fail)
  refine congrArg AV.bool ?_
  unfold idxF
  cases hi : l.findIdx? fun x => decide (n = x) with
  | none =>
    rw [List.findIdx?_eq_none_iff] at hi
    symm; rw [show decide (0 ≤ (-1 : Int)) = false from rfl, Bool.eq_false_iff]
    intro hc
    have := hi n (List.contains_iff_mem.1 hc)
    simp at this
  | some i =>
    rw [List.findIdx?_eq_some_iff_getElem] at hi
    obtain ⟨hil, h, _⟩ := hi
    simp only [decide_eq_true_eq] at h
    show decide (0 ≤ (i : Int)) = l.contains n
    rw [show decide (0 ≤ (i : Int)) = true by simp]
    symm; rw [List.contains_iff_mem, h]
    exact List.getElem_mem hil

/-- the arcs over the links of a node -/
def arcOf (n : Int) (out : Bool) (i : Nat) (l : Link) : List Int :=
  if (decide (l.a = n) == out) = true ∧ (l.a = n ∨ l.b = n) then [2 * (i : Int)] else if l.a = n ∨ l.b = n then [2 * (i : Int) + 1] else []
def arcsN (n : Int) (out : Bool) : Nat → List Link → List Int
  | _, [] => []
  | i, l :: ls => arcOf n out i l ++ arcsN n out (i + 1) ls
theorem arcsN_snoc (n : Int) (out : Bool) (x : Link) : ∀ (ls : List Link) (i : Nat), arcsN n out i (ls ++ [x]) = arcsN n out i ls ++ arcOf n out (i + ls.length) x := by
  intro ls
  induction ls with
  | nil => intro i; simp [arcsN]
  | cons l ls ih => intro i; rw [List.cons_append, arcsN, ih, arcsN, List.append_assoc, List.length_cons, Nat.add_right_comm i 1 ls.length, Nat.add_assoc]
theorem arcOf_len (n : Int) (out : Bool) (i : Nat) (l : Link) : (arcOf n out i l).length ≤ 1 := by
  unfold arcOf; repeat' split
  all_goals simp
theorem arcsN_len (n : Int) (out : Bool) : ∀ (ls : List Link) (i : Nat), (arcsN n out i ls).length ≤ ls.length := by
  intro ls
  induction ls with
  | nil => intro i; exact Nat.le_refl _
  | cons l ls ih => intro i; have := ih (i + 1); have := arcOf_len n out i l; simp [arcsN]; omega
def Topology.arcs1 (t : Topology) (n : Int) (out : Bool) : List Int := if t.valid then arcsN n out 0 t.links else []
theorem arcs1_len (t : Topology) (n : Int) (out : Bool) : (t.arcs1 n out).length ≤ t.links.length := by
  unfold Topology.arcs1; split
  · exact arcsN_len ..
  · exact Nat.zero_le _
theorem arcs1_c (t : Topology) (n : Int) (out : Bool) (hl : t.links.length < 1099511627776) : PureCall Try.prog F.topology_arcs [.agg t.enc, ai n, .bool out] (asl ((t.arcs1 n out).map eInt)) := by
  refine contractS fits K.topology_arcs ?_
  repeat' (first
    | ((with_reducible refine step ?_); conv => whnf)
    | (refine call_pure (valid_c t) rfl rfl ?_; conv => whnf)
    | (with_reducible refine And.intro (fun h => ?_) (fun h => ?_))
    | fail)
  · rw [Topology.arcs1, if_neg (by simpa using h)]; rfl
  have hv : t.valid = true := by simpa using h
  clear h
  refine loop_promoteD (k := 7) (esz := 1) rfl (by decide) ?_
  refine loop_invS (fun i => i ≤ t.links.length) [1, 2, 7, 14, 15, 16] 2 (fun i => [(16, ai i)]) (fun i => [(1, .arr 0 1 none ((arcsN n out 0 (t.links.take i)).map eInt) false)]) (fun i => t.links.length - i) 0 (by decide) (by decide) ?_
  conv => whnf
  refine ⟨rfl, rfl, by omega, fun i hi => ?_⟩
  have hlen : (arcsN n out 0 (t.links.take i)).length ≤ t.links.length := Nat.le_trans (arcsN_len ..) (by simp; omega)
  repeat' (first
      | ((with_reducible refine step ?_); conv => whnf)
      | (with_reducible refine And.intro (fun h => ?_) (fun h => ?_))
      | (have hlt : i < t.links.length := (by first | assumption | simp_all); refine idx_nat hlt rfl ?_; conv => whnf)
      | (refine And.intro ?_ ?_; (focus (simp [elemsOk, AV.oneC, big]; (try omega); done)); conv => whnf)
      | fail)
  all_goals try simp only [List.length_map, decide_eq_true_eq, decide_eq_false_iff_not] at *
  rotate_right
  · obtain rfl : i = t.links.length := by omega
    rw [List.take_length, Topology.arcs1, if_pos hv]
  all_goals
    have hstep : arcsN n out 0 (t.links.take (i + 1)) = arcsN n out 0 (t.links.take i) ++ arcOf n out i t.links[i] := by
      rw [List.take_succ_eq_append_getElem hlt, arcsN_snoc, List.length_take, Nat.min_eq_left (by omega), Nat.zero_add]
    refine ⟨i + 1, by omega, by omega, by rw [wrap_succ (by omega)]; rfl, ?_⟩
    rw [hstep]
    have h2 : IntKind.i64.wrap (2 * (i : Int)) = 2 * (i : Int) := wrap_in (by omega)
    have h3 : IntKind.i64.wrap (2 * (i : Int) + 1) = 2 * (i : Int) + 1 := wrap_in (by omega)
    try rw [h2]
    try rw [h3]
    first
    | (rw [show arcOf n out i t.links[i] = [2 * (i : Int)] by clear hstep hlen hi; cases out <;> simp_all [arcOf], List.map_append]; rfl)
    | (rw [show arcOf n out i t.links[i] = [2 * (i : Int) + 1] by clear hstep hlen hi; cases out <;> simp_all [arcOf], List.map_append]; rfl)
    | (rw [show arcOf n out i t.links[i] = [] by clear hstep hlen hi; cases out <;> simp_all [arcOf], List.append_nil]; rfl)
end Go.Proofs.Ytmapiefbnjaikaa.Vm
/- Contracts: tables. -/
set_option linter.all false
namespace Go.Proofs.Ytmapiefbnjaikaa.Vm
open Go
set_option maxRecDepth 100000
set_option maxHeartbeats 4000000

/-- at a place of a list: the number is one of these, and greater than the one ahead -/
def okAt (p : Int → Bool) (l : List Int) (k : Nat) : Bool := p (l.getD k 0) && (decide (k = 0) || decide (l.getD (k - 1) 0 < l.getD k 0))
def goes (p : Int → Bool) (l : List Int) : Bool := (List.range l.length).all (okAt p l)
theorem goes_no {p : Int → Bool} {l : List Int} {i : Nat} (hi : i < l.length) (h : okAt p l i = false) : goes p l = false := by
  rw [goes, List.all_eq_false]; exact ⟨i, List.mem_range.2 hi, by simp [h]⟩
theorem goes_yes {p : Int → Bool} {l : List Int} {i : Nat} (hi : l.length ≤ i) (h : ∀ k < i, okAt p l k = true) : goes p l = true := by
  rw [goes, List.all_eq_true]; intro k hk; exact h k (by have := List.mem_range.1 hk; omega)
theorem succ_all {q : Nat → Prop} {i : Nat} (h : ∀ k < i, q k) (hi : q i) : ∀ k < i + 1, q k := fun k hk => by
  rcases Nat.lt_or_ge k i with hlt | hge
  · exact h k hlt
  · obtain rfl : k = i := by omega
    exact hi
theorem getD_at {α : Type} {l : List α} {i : Nat} {d : α} (h : i < l.length) : l.getD i d = l[i] := by rw [List.getD_eq_getElem?_getD, List.getElem?_eq_getElem h]; rfl

theorem outgoing22_c (t : Topology) (n : Int) (l : List Int) (hl : l.length < 1099511627776) : PureCall Try.prog F.ref22_outgoing [.agg t.enc, ai n, asl (l.map eInt)] (.bool (goes (fun a => decide (t.tail a = n)) l)) := by
  refine contractS fits K.ref22_outgoing ?_
  repeat' (first
    | ((with_reducible refine step ?_); conv => whnf)
    | (with_reducible refine And.intro (fun h => ?_) (fun h => ?_)))
  refine loop_invS (fun i => i ≤ l.length ∧ ∀ k < i, okAt (fun a => decide (t.tail a = n)) l k = true) [1, 2, 3, 7] 1 (fun i => [(7, ai i)]) (fun _ => []) (fun i => l.length - i) 0 (by decide) (by decide) ?_
  conv => whnf
  refine ⟨rfl, rfl, by simp, fun i ⟨hi, hp⟩ => ?_⟩
  repeat' (first
      | ((with_reducible refine step ?_); conv => whnf)
      | (with_reducible refine And.intro (fun h => ?_) (fun h => ?_))
      | (have hlt : i < l.length := (by first | assumption | simp_all); refine idx_nat hlt rfl ?_; conv => whnf)
      | (have h0 : 0 < i := (by simp_all); have hi1 : IntKind.i64.wrap ((i : Int) - 1) = ((i - 1 : Nat) : Int) := (by rw [wrap_in (by omega)]; omega); refine idx_int (j := i - 1) hi1 (by omega) rfl ?_; conv => whnf)
      | (refine call_pure (tail9_c t _) rfl rfl ?_; conv => whnf)
      | fail)
  all_goals try simp only [List.length_map, decide_eq_true_eq, decide_eq_false_iff_not, Bool.not_eq_true', Bool.not_eq_false'] at *
  · rw [goes_no hlt (by simp [okAt, getD_at hlt, *])]
  · rw [goes_no hlt (by
      have := getD_at (d := (0 : Int)) (show i - 1 < l.length by omega)
      simp only [okAt, getD_at hlt, this, Bool.and_eq_false_iff, Bool.or_eq_false_iff, decide_eq_false_iff_not]
      exact .inr ⟨by omega, by omega⟩)]
  · refine ⟨i + 1, ⟨by omega, succ_all hp ?_⟩, by omega, by rw [wrap_succ (by omega)]; rfl, rfl⟩
    have := getD_at (d := (0 : Int)) (show i - 1 < l.length by omega)
    simp only [okAt, getD_at hlt, Bool.and_eq_true, Bool.or_eq_true, decide_eq_true_eq]
    exact ⟨by assumption, .inr (by omega)⟩
  · refine ⟨i + 1, ⟨by omega, succ_all hp ?_⟩, by omega, by rw [wrap_succ (by omega)]; rfl, rfl⟩
    simp only [okAt, getD_at hlt, Bool.and_eq_true, Bool.or_eq_true, decide_eq_true_eq]
    exact ⟨by assumption, .inl (by omega)⟩
  · rw [goes_yes (by omega) hp]

theorem outgoing_c (o l : List Int) (ho : o.length < 1099511627776) (hl : l.length < 1099511627776) : PureCall Try.prog F.table_outgoing [asl (o.map eInt), asl (l.map eInt)] (.bool (goes (fun a => o.contains a) l)) := by
  refine contractS fits K.table_outgoing ?_
  repeat' (first
    | ((with_reducible refine step ?_); conv => whnf)
    | (with_reducible refine And.intro (fun h => ?_) (fun h => ?_)))
  refine loop_invS (fun i => i ≤ l.length ∧ ∀ k < i, okAt (fun a => o.contains a) l k = true) [0, 1, 7, 8, 9] 0 (fun i => [(9, ai i)]) (fun _ => []) (fun i => l.length - i) 0 (by decide) (by decide) ?_
  conv => whnf
  refine ⟨rfl, rfl, by simp, fun i ⟨hi, hp⟩ => ?_⟩
  repeat' (first
      | ((with_reducible refine step ?_); conv => whnf)
      | (with_reducible refine And.intro (fun h => ?_) (fun h => ?_))
      | (have hlt : i < l.length := (by first | assumption | simp_all); refine idx_nat hlt rfl ?_; conv => whnf)
      | (have h0 : 0 < i := (by simp_all); have hi1 : IntKind.i64.wrap ((i : Int) - 1) = ((i - 1 : Nat) : Int) := (by rw [wrap_in (by omega)]; omega); refine idx_int (j := i - 1) hi1 (by omega) rfl ?_; conv => whnf)
      | (refine call_pure (contains_c o _ (by omega)) rfl rfl ?_; conv => whnf)
      | fail)
  all_goals try simp only [List.length_map, decide_eq_true_eq, decide_eq_false_iff_not, Bool.not_eq_true', Bool.not_eq_false'] at *
  · rw [goes_no hlt (by simp only [okAt, getD_at hlt, Bool.and_eq_false_iff]; left; assumption)]
  · rw [goes_no hlt (by
      have := getD_at (d := (0 : Int)) (show i - 1 < l.length by omega)
      simp only [okAt, getD_at hlt, this, Bool.and_eq_false_iff, Bool.or_eq_false_iff, decide_eq_false_iff_not]
      exact .inr ⟨by omega, by omega⟩)]
  · refine ⟨i + 1, ⟨by omega, succ_all hp ?_⟩, by omega, by rw [wrap_succ (by omega)]; rfl, rfl⟩
    have := getD_at (d := (0 : Int)) (show i - 1 < l.length by omega)
    simp only [okAt, getD_at hlt, Bool.and_eq_true, Bool.or_eq_true, decide_eq_true_eq]
    exact ⟨by assumption, .inr (by omega)⟩
  · refine ⟨i + 1, ⟨by omega, succ_all hp ?_⟩, by omega, by rw [wrap_succ (by omega)]; rfl, rfl⟩
    simp only [okAt, getD_at hlt, Bool.and_eq_true, Bool.or_eq_true, decide_eq_true_eq]
    exact ⟨by assumption, .inl (by omega)⟩
  · rw [goes_yes (by omega) hp]

def entryOk (t : Topology) (n : Int) (d : Nat) (e : Entry) : Bool :=
  goes (fun a => decide (t.tail a = n)) e.arcs && !(decide ((d : Int) = n) && decide (0 < e.arcs.length)) && !(!e.replace && decide (0 < e.push.length)) && !(e.replace && (decide (e.arcs.length ≠ 1) || decide (32 < e.push.length))) && e.push.all (·.valid t)
def Table.valid (t : Topology) (x : Table) : Bool :=
  t.valid && decide (0 ≤ x.node) && decide (x.node < t.nodes) && decide ((x.to.length : Int) = t.nodes) && goes (fun a => decide (t.tail a = x.node)) x.down && (List.range x.to.length).all fun d => entryOk t x.node d (x.to.getD d default)
theorem range_no {q : Nat → Bool} {n i : Nat} (hi : i < n) (h : q i = false) : (List.range n).all q = false := by
  rw [List.all_eq_false]; exact ⟨i, List.mem_range.2 hi, by simp [h]⟩
theorem range_yes {q : Nat → Bool} {n i : Nat} (hi : n ≤ i) (h : ∀ k < i, q k = true) : (List.range n).all q = true := by
  rw [List.all_eq_true]; intro k hk; exact h k (by have := List.mem_range.1 hk; omega)
/-- sizes -/
structure Fit (t : Topology) (x : Table) : Prop where
  links : t.links.length < 1099511627776
  down : x.down.length < 1099511627776
  to : x.to.length < 1099511627776
  arcs : ∀ e ∈ x.to, e.arcs.length < 1099511627776
  push : ∀ e ∈ x.to, e.push.length < 1099511627776

theorem tableValid22_c (t : Topology) (x : Table) (hf : Fit t x) : PureCall Try.prog F.ref22_Valid [.agg t.enc, .agg x.enc] (.bool (x.valid t)) := by
  refine contractS fits K.ref22_Valid ?_
  repeat' (first
      | ((with_reducible refine step ?_); conv => whnf)
      | (with_reducible refine And.intro (fun h => ?_) (fun h => ?_))
      | (refine call_pure (valid9_c t) rfl rfl ?_; conv => whnf)
      | (refine call_pure (outgoing22_c t x.node x.down hf.down) rfl rfl ?_; conv => whnf)
      | fail)
  all_goals try simp only [List.length_map, decide_eq_true_eq, decide_eq_false_iff_not, Bool.not_eq_true', Bool.not_eq_false'] at *
  iterate 5 (focus (simp [Table.valid, *]; try omega))
  have hpre : x.valid t = (List.range x.to.length).all fun d => entryOk t x.node d (x.to.getD d default) := by
    simp [Table.valid, *]; omega
  rw [hpre]
  refine loop_invS (fun i => i ≤ x.to.length ∧ ∀ k < i, entryOk t x.node k (x.to.getD k default) = true) [2, 3, 5] 2 (fun i => [(5, ai i)]) (fun _ => []) (fun i => x.to.length - i) 0 (by decide) (by decide) ?_
  conv => whnf
  refine ⟨rfl, rfl, by simp, fun i ⟨hi, hp⟩ => ?_⟩
  have hto := hf.to
  repeat' (first
      | ((with_reducible refine step ?_); conv => whnf)
      | (with_reducible refine And.intro (fun h => ?_) (fun h => ?_))
      | fail)
  all_goals simp only [List.length_map, decide_eq_true_eq, decide_eq_false_iff_not] at h
  rotate_right
  · rw [range_yes (by omega) hp]
  have hlt : i < x.to.length := by omega
  refine idx_nat hlt rfl ?_
  have harcs := hf.arcs _ (List.getElem_mem hlt)
  have hpush := hf.push _ (List.getElem_mem hlt)
  have hE : x.to.getD i default = x.to[i] := getD_at hlt
  have hnext : entryOk t x.node i x.to[i] = true → (i + 1 ≤ x.to.length ∧ ∀ k < i + 1, entryOk t x.node k (x.to.getD k default) = true) := fun h => ⟨hlt, succ_all hp (by rw [hE]; exact h)⟩
  have hno : entryOk t x.node i x.to[i] = false → ((List.range x.to.length).all fun d => entryOk t x.node d (x.to.getD d default)) = false := fun h => range_no hlt (by rw [hE]; exact h)
  clear hE
  generalize x.to[i] = e at harcs hpush hnext hno ⊢
  obtain ⟨arcs, rep, push⟩ := e
  dsimp only at harcs hpush
  have hwi : IntKind.i64.wrap ((i : Int) + 1) = ((i + 1 : Nat) : Int) := wrap_succ (by omega)
  cases rep
  all_goals
    conv => whnf
    repeat' (first
      | contradiction
      | (exfalso; revert h; decide)
      | ((with_reducible refine step ?_); conv => whnf)
      | (with_reducible refine And.intro (fun h => ?_) (fun h => ?_))
      | (refine call_pure (outgoing22_c t x.node arcs harcs) rfl rfl ?_; conv => whnf)
      | (refine loop_invS (fun k => k ≤ push.length ∧ ∀ y ∈ push.take k, y.valid t = true) [2, 3, 5, 6, 7] 3 (fun k => [(7, ai k)]) (fun _ => []) (fun k => push.length - k) 0 (by decide) (by decide) ?_
         (conv => whnf)
         refine ⟨rfl, rfl, by simp, fun k ⟨hk, hq⟩ => ?_⟩)
      | (have hkl : k < push.length := (by first | assumption | simp_all); refine idx_nat hkl rfl ?_; conv => whnf)
      | (refine call_pure (segValid18_c t _) rfl rfl ?_; conv => whnf)
      | fail)
  all_goals try simp only [List.length_map, decide_eq_true_eq, decide_eq_false_iff_not, Bool.not_eq_true', Bool.not_eq_false', hwi] at *
  all_goals first
    | contradiction
    | (rw [hno]; simp only [entryOk, Bool.and_eq_false_iff, Bool.not_eq_false', Bool.and_eq_true, Bool.or_eq_true, decide_eq_true_eq, Bool.not_false, Bool.not_true, Bool.false_eq_true, false_and, or_false, true_and, List.all_eq_false]
       first
       | (simp only [*, true_or, or_true, and_self]; done)
       | (exact .inr ⟨push[k], List.getElem_mem hkl, by simp [*]⟩)
       | (simp [*]; done)
       | grind)
    | exact ⟨k + 1, ⟨by omega, all_take_succ hkl hq (by assumption)⟩, by omega, by rw [wrap_succ (by omega)]; rfl, rfl⟩
    | (refine ⟨i + 1, hnext ?_, by omega, rfl, rfl⟩
       have := all_true (by omega) hq
       have q1 : ¬ 0 < push.length ∨ 0 < push.length := by omega
       have q2 : ¬ 0 < arcs.length ∨ 0 < arcs.length := by omega
       clear hp hq hnext hno hpre
       first
       | (simp [entryOk, *]; done)
       | (simp only [entryOk, Bool.and_eq_true, Bool.not_eq_true', Bool.and_eq_false_iff, Bool.or_eq_false_iff, decide_eq_false_iff_not, decide_eq_true_eq, Bool.not_false, Bool.not_true, Bool.false_eq_true, Bool.true_eq_false, true_or, or_true, false_or, and_true, ne_eq, Decidable.not_not]
          refine ⟨⟨⟨?_, ?_⟩, ?_⟩, ?_⟩ <;> first | assumption | omega | (constructor <;> first | assumption | omega)))
end Go.Proofs.Ytmapiefbnjaikaa.Vm
/- Laws: the arcs of a node; contracts: tables of the program. -/
set_option linter.all false
namespace Go.Proofs.Ytmapiefbnjaikaa.Vm
open Go
set_option maxRecDepth 100000
set_option maxHeartbeats 4000000

theorem arcsN_mem (n : Int) (out : Bool) (x : Int) : ∀ (ls : List Link) (i : Nat), x ∈ arcsN n out i ls ↔ ∃ k, ∃ h : k < ls.length, x ∈ arcOf n out (i + k) ls[k] := by
  intro ls
  induction ls with
  | nil => intro i; simp [arcsN]
  | cons l ls ih =>
    intro i
    rw [arcsN, List.mem_append, ih]
    constructor
    · rintro (h | ⟨k, hk, h⟩)
      · exact ⟨0, by simp, by simpa using h⟩
      · exact ⟨k + 1, by simpa using hk, by rw [show i + (k + 1) = i + 1 + k by omega]; simpa using h⟩
    · rintro ⟨k, hk, h⟩
      cases k with
      | zero => left; simpa using h
      | succ k => right; exact ⟨k, by simpa using hk, by rw [show i + 1 + k = i + (k + 1) by omega]; simpa using h⟩
theorem valid_ne {t : Topology} (h : t.valid = true) {l : Link} (hl : l ∈ t.links) : l.a ≠ l.b ∧ 0 ≤ l.a ∧ 0 ≤ l.b := by
  simp [Topology.valid, Link.proper] at h
  grind
theorem out_mem {t : Topology} (h : t.valid = true) {n : Int} (hn : 0 ≤ n) (a : Int) : a ∈ t.arcs1 n true ↔ t.tail a = n := by
  unfold Topology.arcs1
  rw [if_pos h, arcsN_mem, Topology.tail, arcs_valid h]
  constructor
  · rintro ⟨k, hk, hm⟩
    have hne := valid_ne h (List.getElem_mem hk)
    unfold arcOf at hm
    rw [Nat.zero_add] at hm
    have hat : ∀ b : Int, b / 2 = k → t.at_ b = t.links[k] := fun b hb => by unfold Topology.at_; rw [hb, Int.toNat_natCast, getD_at hk]
    split at hm
    · rename_i h1
      simp at h1 hm
      subst hm
      rw [if_neg (by omega), if_pos (by omega), hat _ (by omega)]
      exact h1.1
    · rename_i h1
      split at hm
      · rename_i h2
        simp at h1 hm
        subst hm
        rw [if_neg (by omega), if_neg (by omega), hat _ (by omega)]
        rcases h2 with h2 | h2
        · exact absurd h2 (by intro h3; have := h1 h3; exact this.1 h3)
        · exact h2
      · simp at hm
  · intro ht
    by_cases hr : a < 0 ∨ 2 * (t.links.length : Int) ≤ a
    · rw [if_pos hr] at ht; omega
    rw [if_neg hr] at ht
    have hk : (a / 2).toNat < t.links.length := by omega
    have hat : t.at_ a = t.links[(a / 2).toNat] := by unfold Topology.at_; rw [getD_at hk]
    have hne := valid_ne h (List.getElem_mem hk)
    refine ⟨(a / 2).toNat, hk, ?_⟩
    rw [hat] at ht
    unfold arcOf
    by_cases he : a % 2 = 0
    · rw [if_pos he] at ht
      rw [if_pos (by simp [ht])]
      simp; omega
    · rw [if_neg he] at ht
      rw [if_neg (by simp; omega), if_pos (.inr ht)]
      simp; omega
theorem goes_congr {p q : Int → Bool} (h : ∀ a, p a = q a) (l : List Int) : goes p l = goes q l := by
  have : p = q := funext h
  rw [this]
theorem goes_out {t : Topology} (h : t.valid = true) {n : Int} (hn : 0 ≤ n) (l : List Int) : goes (fun a => (t.arcs1 n true).contains a) l = goes (fun a => decide (t.tail a = n)) l := by
  refine goes_congr (fun a => ?_) l
  rw [Bool.eq_iff_iff, List.contains_iff_mem, out_mem h hn, decide_eq_true_eq]
theorem out_c (t : Topology) (n : Int) (hl : t.links.length < 1099511627776) : PureCall Try.prog F.topology_Out [.agg t.enc, ai n] (asl ((t.arcs1 n true).map eInt)) := by
  refine contractS fits K.topology_Out ?_
  repeat' (first
      | ((with_reducible refine step ?_); conv => whnf)
      | (refine call_pure (arcs1_c t n true hl) rfl rfl ?_; conv => whnf)
      | fail)

theorem tableValid_c (t : Topology) (x : Table) (hf : Fit t x) : PureCall Try.prog F.table_Valid [.agg t.enc, .agg x.enc] (.bool (x.valid t)) := by
  refine contractS fits K.table_Valid ?_
  have hol : (t.arcs1 x.node true).length < 1099511627776 := Nat.lt_of_le_of_lt (arcs1_len ..) hf.links
  repeat' (first
      | ((with_reducible refine step ?_); conv => whnf)
      | (with_reducible refine And.intro (fun h => ?_) (fun h => ?_))
      | (refine call_pure (valid_c t) rfl rfl ?_; conv => whnf)
      | (refine call_pure (out_c t x.node hf.links) rfl rfl ?_; conv => whnf)
      | (refine call_pure (outgoing_c (t.arcs1 x.node true) x.down hol hf.down) rfl rfl ?_; conv => whnf)
      | fail)
  all_goals try simp only [List.length_map, decide_eq_true_eq, decide_eq_false_iff_not, Bool.not_eq_true', Bool.not_eq_false'] at *
  iterate 4 (focus (simp [Table.valid, *]; try omega))
  · rename_i hv h1 h2 h3
    rw [goes_out hv (by omega)] at h
    simp [Table.valid, *]
  have hv : t.valid = true := by assumption
  have hn : 0 ≤ x.node := by omega
  rw [goes_out hv hn] at h
  have hpre : x.valid t = (List.range x.to.length).all fun d => entryOk t x.node d (x.to.getD d default) := by
    simp [Table.valid, *]; omega
  rw [hpre]
  refine loop_invS (fun i => i ≤ x.to.length ∧ ∀ k < i, entryOk t x.node k (x.to.getD k default) = true) [2, 3, 5, 43, 44, 45] 2 (fun i => [(45, ai i)]) (fun _ => []) (fun i => x.to.length - i) 0 (by decide) (by decide) ?_
  conv => whnf
  refine ⟨rfl, rfl, by simp, fun i ⟨hi, hp⟩ => ?_⟩
  have hto := hf.to
  repeat' (first
      | ((with_reducible refine step ?_); conv => whnf)
      | (with_reducible refine And.intro (fun h => ?_) (fun h => ?_))
      | fail)
  all_goals simp only [List.length_map, decide_eq_true_eq, decide_eq_false_iff_not] at h
  rotate_right
  · rw [range_yes (by omega) hp]
  have hlt : i < x.to.length := by omega
  refine idx_nat hlt rfl ?_
  have harcs := hf.arcs _ (List.getElem_mem hlt)
  have hpush := hf.push _ (List.getElem_mem hlt)
  have hE : x.to.getD i default = x.to[i] := getD_at hlt
  have hnext : entryOk t x.node i x.to[i] = true → (i + 1 ≤ x.to.length ∧ ∀ k < i + 1, entryOk t x.node k (x.to.getD k default) = true) := fun h => ⟨hlt, succ_all hp (by rw [hE]; exact h)⟩
  have hno : entryOk t x.node i x.to[i] = false → ((List.range x.to.length).all fun d => entryOk t x.node d (x.to.getD d default)) = false := fun h => range_no hlt (by rw [hE]; exact h)
  clear hE
  generalize x.to[i] = e at harcs hpush hnext hno ⊢
  obtain ⟨arcs, rep, push⟩ := e
  dsimp only at harcs hpush
  have hwi : IntKind.i64.wrap ((i : Int) + 1) = ((i + 1 : Nat) : Int) := wrap_succ (by omega)
  have hgo := outgoing_c (t.arcs1 x.node true) arcs hol harcs
  rw [goes_out hv hn] at hgo
  cases rep
  all_goals
    conv => whnf
    repeat' (first
      | contradiction
      | (exfalso; revert h; decide)
      | (exfalso; refine Bool.false_ne_true (Eq.trans (Eq.symm h) ?_); with_reducible assumption)
      | (exfalso; refine Bool.false_ne_true (Eq.trans (Eq.symm ?_) h); with_reducible assumption)
      | ((with_reducible refine step ?_); conv => whnf)
      | (with_reducible refine And.intro (fun h => ?_) (fun h => ?_))
      | (refine call_pure hgo rfl rfl ?_; conv => whnf)
      | (refine loop_invS (fun k => k ≤ push.length ∧ ∀ y ∈ push.take k, y.valid t = true) [2, 3, 5, 43, 44, 45, 88, 89, 90] 3 (fun k => [(90, ai k)]) (fun _ => []) (fun k => push.length - k) 0 (by decide) (by decide) ?_
         (conv => whnf)
         refine ⟨rfl, rfl, by simp, fun k ⟨hk, hq⟩ => ?_⟩)
      | (have hkl : k < push.length := (by first | assumption | simp_all); refine idx_nat hkl rfl ?_; conv => whnf)
      | (refine call_pure (segValid_c t _) rfl rfl ?_; conv => whnf)
      | fail)
  all_goals try simp only [List.length_map, decide_eq_true_eq, decide_eq_false_iff_not, Bool.not_eq_true', Bool.not_eq_false', hwi] at *
  all_goals first
    | contradiction
    | (rw [hno]; simp only [entryOk, Bool.and_eq_false_iff, Bool.not_eq_false', Bool.and_eq_true, Bool.or_eq_true, decide_eq_true_eq, Bool.not_false, Bool.not_true, Bool.false_eq_true, false_and, or_false, true_and, List.all_eq_false]
       first
       | (simp only [*, true_or, or_true, and_self]; done)
       | (exact .inr ⟨push[k], List.getElem_mem hkl, by simp [*]⟩)
       | (simp [*]; done)
       | grind)
    | exact ⟨k + 1, ⟨by omega, all_take_succ hkl hq (by assumption)⟩, by omega, by rw [wrap_succ (by omega)]; rfl, rfl⟩
    | (refine ⟨i + 1, hnext ?_, by omega, rfl, rfl⟩
       have := all_true (by omega) hq
       have q1 : ¬ 0 < push.length ∨ 0 < push.length := by omega
       have q2 : ¬ 0 < arcs.length ∨ 0 < arcs.length := by omega
       clear hp hq hnext hno hpre
       first
       | (simp [entryOk, *]; done)
       | (simp only [entryOk, Bool.and_eq_true, Bool.not_eq_true', Bool.and_eq_false_iff, Bool.or_eq_false_iff, decide_eq_false_iff_not, decide_eq_true_eq, Bool.not_false, Bool.not_true, Bool.false_eq_true, Bool.true_eq_false, true_or, or_true, false_or, and_true, ne_eq, Decidable.not_not]
          refine ⟨⟨⟨?_, ?_⟩, ?_⟩, ?_⟩ <;> first | assumption | omega | (constructor <;> first | assumption | omega)))
end Go.Proofs.Ytmapiefbnjaikaa.Vm
/- Contracts: copies, packets, the reference's routes. -/
set_option linter.all false
namespace Go.Proofs.Ytmapiefbnjaikaa.Vm
open Go
set_option maxRecDepth 100000
set_option maxHeartbeats 4000000

/-- whether a slice without elements is nil is not known -/
theorem sl_split {g : Gh} {w : World} {full : Bool} {es : List (List AV)} {v : Value} (h : Rel g w (.sl none full es) v) : (es = [] ∧ Rel g w (.sl (some true) full []) v) ∨ Rel g w (.sl (some false) full es) v := by
  rcases inv_sl h with ⟨h0, a, h1, h2, rfl⟩ | ⟨b, o, cap, vs, h0, h1, h2, h3, h4, h5, rfl⟩
  · subst h0
    cases a with
    | none => exact .inl ⟨rfl, .slnil (fun _ h => by simp at h) (fun _ h => nomatch h)⟩
    | some a => exact .inr (.slnil (fun h => nomatch h) (fun _ _ h => by simp at h))
  · exact .inr (.sl vs (fun h => by simp at h) h1 h2 h3 (fun i c j x hi hj => (h4 i c j x hi hj).1) (fun i c j x hi hj => (h4 i c j x hi hj).2) h5)
theorem pure_nn {P : Program} {fid : FuncId} {full : Bool} {es : List (List AV)} {rest : List AV} {v : AV} (h1 : es = [] → PureCall P fid (.sl (some true) full [] :: rest) v) (h2 : PureCall P fid (.sl (some false) full es :: rest) v) : PureCall P fid (.sl none full es :: rest) v := by
  refine ⟨h2.1, fun st w vals hst hl hr => ?_⟩
  have hv : ∃ u, vals[0]? = some u := by
    refine ⟨vals[0]'(by rw [← hl]; simp), ?_⟩
    simp
  obtain ⟨u, hu⟩ := hv
  have hset : ∀ x, Rel (stG st) w x u → ∀ (i : Nat) (y : AV) (z : Value), (x :: rest)[i]? = some y → vals[i]? = some z → Rel (stG st) w y z := fun x hx i y z hy hz => by
    cases i with
    | zero => rw [hu] at hz; cases hz; cases hy; exact hx
    | succ i => exact hr (i + 1) y z hy hz
  rcases sl_split (hr 0 _ u rfl hu) with ⟨he, h⟩ | h
  · exact (h1 he).2 st w vals hst (by simpa using hl) (hset _ h)
  · exact h2.2 st w vals hst (by simpa using hl) (hset _ h)
theorem cloneS_c (l : List Segment) (hl : l.length < 1099511627776) : PureCall Try.prog F.slices_Clone_Segment [asl (l.map Segment.enc)] (asl (l.map Segment.enc)) := by
  refine pure_nn (fun he => ?_) ?_
  all_goals
    refine contractS fits K.slices_Clone_Segment ?_
    repeat' (first
      | (exfalso; revert h; decide)
      | ((with_reducible refine step ?_); conv => whnf)
      | (with_reducible refine And.intro (fun h => ?_) (fun h => ?_))
      | (refine And.intro ?_ ?_; (focus (simp [elemsOk, AV.oneC, big, Segment.enc]; (try omega); done)); conv => whnf)
      | fail)
  · rw [he]
  · rfl
theorem cloneI_c (l : List Int) (hl : l.length < 1099511627776) : PureCall Try.prog F.slices_Clone_int [asl (l.map eInt)] (asl (l.map eInt)) := by
  refine pure_nn (fun he => ?_) ?_
  all_goals
    refine contractS fits K.slices_Clone_int ?_
    repeat' (first
      | (exfalso; revert h; decide)
      | ((with_reducible refine step ?_); conv => whnf)
      | (with_reducible refine And.intro (fun h => ?_) (fun h => ?_))
      | (refine And.intro ?_ ?_; (focus (simp [elemsOk, AV.oneC, big, eInt]; (try omega); done)); conv => whnf)
      | fail)
  · rw [he]
  · rfl
theorem samePacket_c (p q : Packet) (hp : p.stack.length < 4611686018427387904) : PureCall Try.prog F.ref23_Same [.agg p.enc, .agg q.enc] (.bool (decide (p = q))) := by
  refine contractS fits K.ref23_Same ?_
  repeat' (first
      | (exfalso; revert h; decide)
      | ((with_reducible refine step ?_); conv => whnf)
      | (refine call_pure (same18_c p.stack q.stack hp) rfl rfl ?_; conv => whnf)
      | (with_reducible refine And.intro (fun h => ?_) (fun h => ?_))
      | fail)
  all_goals
    obtain ⟨a1, a2, a3, a4, a5, a6⟩ := p
    obtain ⟨b1, b2, b3, b4, b5, b6⟩ := q
    simp_all

/-- where a packet goes on -/
abbrev Way := List Int × List Segment × Int
def eWay (r : Way) : AV := .tuple [asl (r.1.map eInt), asl (r.2.1.map Segment.enc), ai r.2.2]
def fwd (t : Topology) (x : Table) (stack : List Segment) (again : Way) (to : Int) : Way :=
  if to < 0 ∨ t.nodes ≤ to ∨ (x.to.getD to.toNat default).arcs.length = 0 then (if 0 < stack.length then again else ([], [], 1))
  else if (x.to.getD to.toNat default).replace then
    (if 32 < (x.to.getD to.toNat default).push.length + (stack.length - 1) then ([], [], 5) else ((x.to.getD to.toNat default).arcs, (x.to.getD to.toNat default).push ++ stack.drop 1, 0))
  else ((x.to.getD to.toNat default).arcs, stack, 0)
def routeG (t : Topology) (x : Table) (p : Packet) (stack : List Segment) (again : Way) : Way :=
  if stack.length = 0 ∧ p.dst = x.node then ([], [], -1)
  else if p.hops < 0 ∨ 255 ≤ p.hops then ([], [], 4)
  else if 0 < stack.length then
    (if (stack.getD 0 default).kind = 2 then
      (if t.tail (stack.getD 0 default).num ≠ x.node then ([], [], 2)
       else if x.down.contains (stack.getD 0 default).num then again else ([(stack.getD 0 default).num], stack.drop 1, 0))
     else if (stack.getD 0 default).kind = 1 then fwd t x stack again (stack.getD 0 default).num
     else ([], [], 1))
  else fwd t x stack again p.dst
theorem valid_to {t : Topology} {x : Table} (h : x.valid t = true) : (x.to.length : Int) = t.nodes ∧ ∀ d, d < x.to.length → (x.to.getD d default).push.length ≤ 32 := by
  simp only [Table.valid, Bool.and_eq_true, decide_eq_true_eq, List.all_eq_true, List.mem_range] at h
  refine ⟨h.1.1.2, fun d hd => ?_⟩
  have := h.2 d hd
  simp only [entryOk, Bool.and_eq_true, Bool.not_eq_true', Bool.and_eq_false_iff, Bool.or_eq_false_iff, decide_eq_false_iff_not] at this
  cases hr : (x.to.getD d default).replace <;> simp_all <;> omega
theorem segDrop (l : List Segment) (k : Nat) : elemsOk 2 ((l.map Segment.enc).drop k) := by
  intro c hc
  obtain ⟨x, -, rfl⟩ := List.mem_map.1 (List.mem_of_mem_drop hc)
  exact ⟨rfl, by simp [Segment.enc, AV.oneC]⟩
theorem routeG_c (t : Topology) (x : Table) (p : Packet) (stack : List Segment) (again : Way) (hf : Fit t x) (hv : x.valid t = true) (hs : stack.length ≤ 32)
    (hag : 0 < stack.length → PureCall Try.prog F.ref23_Route [.agg t.enc, .agg x.enc, .agg p.enc, asl (([] : List Segment).map Segment.enc)] (eWay again)) :
    PureCall Try.prog F.ref23_Route [.agg t.enc, .agg x.enc, .agg p.enc, asl (stack.map Segment.enc)] (eWay (routeG t x p stack again)) := by
  refine contractS fits K.ref23_Route ?_
  have hto := (valid_to hv).1
  have hpu := (valid_to hv).2
  have hdown := hf.down
  have hnodes := hf.to
  have harcs : ∀ d, d < x.to.length → (x.to.getD d default).arcs.length < 1099511627776 := fun d hd => by rw [getD_at hd]; exact hf.arcs _ (List.getElem_mem hd)
  have hst : ∀ h : 0 < stack.length, stack.getD 0 default = stack[0] := fun h => getD_at h
  repeat' (first
      | contradiction
      | (exfalso; revert h; decide)
      | ((with_reducible refine step ?_); conv => whnf)
      | (refine call_pure (tail9_c t _) rfl rfl ?_; conv => whnf)
      | (refine call_pure (has9_c x.down _ (by omega)) rfl rfl ?_; conv => whnf)
      | (refine call_pure (hag (by first | assumption | (simp at *; omega))) rfl rfl ?_; conv => whnf)
      | ((with_reducible refine And.intro (fun h => ?_) (fun h => ?_)) <;> try (exfalso; simp only [List.length_map, decide_eq_true_eq, decide_eq_false_iff_not, Bool.not_eq_true', Bool.not_eq_false'] at *; first | done | contradiction | omega))
      | (have h0 : 0 < stack.length := (by simp at h; omega); refine idx_int (j := 0) rfl h0 rfl ?_; conv => whnf)
      | (have hd0 : 0 ≤ p.dst := (by simp only [List.length_map, decide_eq_true_eq, decide_eq_false_iff_not, Bool.not_eq_true', Bool.not_eq_false'] at *; omega); have hdl : p.dst.toNat < x.to.length := (by simp only [List.length_map, decide_eq_true_eq, decide_eq_false_iff_not, Bool.not_eq_true', Bool.not_eq_false'] at *; omega); refine idx_int (i := p.dst) (j := p.dst.toNat) (by omega) hdl rfl ?_; conv => whnf)
      | (have hd0 : 0 ≤ stack[0].num := (by simp only [List.length_map, decide_eq_true_eq, decide_eq_false_iff_not, Bool.not_eq_true', Bool.not_eq_false'] at *; omega); have hdl : stack[0].num.toNat < x.to.length := (by simp only [List.length_map, decide_eq_true_eq, decide_eq_false_iff_not, Bool.not_eq_true', Bool.not_eq_false'] at *; omega); refine idx_int (i := stack[0].num) (j := stack[0].num.toNat) (by omega) hdl rfl ?_; conv => whnf)
      | (refine And.intro (And.intro (by simp [Segment.enc]) (by simp only [List.length_map, decide_eq_true_eq, decide_eq_false_iff_not, Bool.not_eq_true', Bool.not_eq_false'] at *; omega)) ?_; conv => whnf)
      | (have hpl := hpu _ hdl; rw [getD_at hdl] at hpl; refine And.intro (And.intro trivial (And.intro rfl (And.intro (segDrop _ _) (by simp [big]; omega)))) ?_; conv => whnf)
      | (have hal := hf.arcs _ (List.getElem_mem hdl); have hpl := hpu _ hdl; rw [getD_at hdl] at hpl; refine And.intro ?_ ?_; (focus (simp [elemsOk, AV.oneC, big, eInt, Segment.enc, ← List.map_drop]; (try omega); done)); conv => whnf)
      | fail)
  all_goals clear hag
  all_goals try simp only [List.length_map, decide_eq_true_eq, decide_eq_false_iff_not, Bool.not_eq_true', Bool.not_eq_false', List.length_append, List.length_drop, List.length_nil, Nat.zero_add, Nat.add_zero] at *
  all_goals
    first
    | (have hs0 := hst (by assumption); unfold routeG fwd; rw [hs0])
    | unfold routeG fwd
    try rw [getD_at hdl]
    repeat' split
  all_goals first
    | rfl
    | contradiction
    | (exfalso; omega)
    | (exfalso; refine Bool.false_ne_true (Eq.trans (Eq.symm ?_) (by assumption)); assumption)
    | (exfalso; refine Bool.false_ne_true (Eq.trans (Eq.symm (by assumption)) ?_); assumption)
    | (exfalso; simp_all; done)
    | (exfalso; simp_all; omega)
    | (simp only [eWay, List.nil_append, List.map_append, List.map_drop, List.map_nil, List.map_cons]; first | done | rfl)
    | (simp only [eWay, List.nil_append, List.map_append, List.map_drop, List.map_nil, List.map_cons, List.eq_nil_of_length_eq_zero (show stack.length = 0 by omega), List.append_nil, List.drop_nil]; first | done | rfl)
end Go.Proofs.Ytmapiefbnjaikaa.Vm
/- Contracts: cases; lists put together; steps of packets. -/
set_option linter.all false
namespace Go.Proofs.Ytmapiefbnjaikaa.Vm
open Go
set_option maxRecDepth 100000
set_option maxHeartbeats 4000000

/- Cases that are too large. -/
def wsum : Int → List Entry → Int
  | n, [] => n
  | n, e :: l => wsum (IntKind.i64.wrap (n + IntKind.i64.wrap ((e.arcs.length : Int) + (e.push.length : Int)))) l
theorem wsum_snoc (e : Entry) : ∀ (l : List Entry) (n : Int), wsum n (l ++ [e]) = IntKind.i64.wrap (wsum n l + IntKind.i64.wrap ((e.arcs.length : Int) + (e.push.length : Int))) := by
  intro l
  induction l with
  | nil => intro n; rfl
  | cons a l ih => intro n; exact ih _
def large23 (c : Case) : Bool := decide (400 < wsum (IntKind.i64.wrap ((c.x.down.length : Int) + (c.p.stack.length : Int))) c.x.to) || decide (70 < c.x.to.length) || decide (100 < c.t.overload.length) || decide (40 < c.t.links.length)
theorem large23_c (c : Case) (hto : c.x.to.length < 4611686018427387904) : PureCall Try.prog F.law23_large [.agg c.enc] (.bool (large23 c)) := by
  refine contractS fits K.law23_large ?_
  repeat' (first
      | (exfalso; revert h; decide)
      | ((with_reducible refine step ?_); conv => whnf)
      | (with_reducible refine And.intro (fun h => ?_) (fun h => ?_))
      | fail)
  refine loop_invS (fun i => i ≤ c.x.to.length) [1, 3, 17, 18, 19] 1 (fun i => [(3, ai (wsum (IntKind.i64.wrap ((c.x.down.length : Int) + (c.p.stack.length : Int))) (c.x.to.take i))), (19, ai i)]) (fun _ => []) (fun i => c.x.to.length - i) 0 (by decide) (by decide) ?_
  conv => whnf
  refine ⟨?_, rfl, by omega, fun i hi => ?_⟩
  · simp only [List.length_map]; rfl
  repeat' (first
      | ((with_reducible refine step ?_); conv => whnf)
      | (with_reducible refine And.intro (fun h => ?_) (fun h => ?_))
      | (have hlt : i < c.x.to.length := (by first | assumption | simp_all); refine idx_nat hlt rfl ?_; conv => whnf)
      | fail)
  all_goals try simp only [List.length_map, decide_eq_true_eq, decide_eq_false_iff_not, Bool.not_eq_true', Bool.not_eq_false'] at *
  · refine ⟨i + 1, by omega, by omega, ?_, rfl⟩
    rw [wrap_succ (by omega), List.take_succ_eq_append_getElem hlt, wsum_snoc]; rfl
  all_goals
    obtain rfl : i = c.x.to.length := by omega
    simp only [List.take_length] at *
    refine congrArg AV.bool ?_
    simp only [large23]
  all_goals grind
theorem wsum_sum : ∀ (l : List Entry) (n : Int), 0 ≤ n → (∀ e ∈ l, e.arcs.length ≤ 140737488355328 ∧ e.push.length ≤ 140737488355328) → n + l.length * 281474976710656 ≤ 4611686018427387904 →
    n ≤ wsum n l ∧ ∀ e ∈ l, n + ((e.arcs.length : Int) + e.push.length) ≤ wsum n l := by
  intro l
  induction l with
  | nil => intro n h0 _ _; exact ⟨Int.le_refl _, nofun⟩
  | cons a l ih =>
    intro n h0 hl hn
    have ha := hl a (by simp)
    simp only [List.length_cons] at hn
    have hw : IntKind.i64.wrap (n + IntKind.i64.wrap ((a.arcs.length : Int) + (a.push.length : Int))) = n + ((a.arcs.length : Int) + a.push.length) := by
      rw [wrap_in (n := (a.arcs.length : Int) + (a.push.length : Int)) (by omega), wrap_in (by omega)]
    obtain ⟨q1, q2⟩ := ih (n + ((a.arcs.length : Int) + a.push.length)) (by omega) (fun e he => hl e (List.mem_cons_of_mem _ he)) (by omega)
    rw [wsum, hw]
    refine ⟨by omega, fun e he => ?_⟩
    rcases List.mem_cons.1 he with rfl | he
    · exact q1
    · have := q2 e he; omega
/-- the lengths of a case's lists are those of slices -/
structure Case.Ok (c : Case) : Prop where
  to : c.x.to.length ≤ 140737488355328
  down : c.x.down.length ≤ 140737488355328
  stack : c.p.stack.length ≤ 140737488355328
  each : ∀ e ∈ c.x.to, e.arcs.length ≤ 140737488355328 ∧ e.push.length ≤ 140737488355328
theorem large23_no {c : Case} (hc : c.Ok) (h : large23 c = false) : Fit c.t c.x ∧ c.p.stack.length ≤ 400 ∧ c.x.down.length ≤ 400 ∧ (∀ e ∈ c.x.to, e.arcs.length ≤ 400 ∧ e.push.length ≤ 400) ∧ c.x.to.length ≤ 70 ∧ c.t.links.length ≤ 40 := by
  simp only [large23, Bool.or_eq_false_iff, decide_eq_false_iff_not] at h
  obtain ⟨⟨⟨h1, h2⟩, h3⟩, h4⟩ := h
  have h5 := hc.down
  have h6 := hc.stack
  rw [wrap_in (by omega)] at h1
  obtain ⟨q1, q2⟩ := wsum_sum c.x.to ((c.x.down.length : Int) + (c.p.stack.length : Int)) (by omega) hc.each (by omega)
  have hq : ∀ e ∈ c.x.to, e.arcs.length ≤ 400 ∧ e.push.length ≤ 400 := fun e he => by have := q2 e he; omega
  exact ⟨⟨by omega, by omega, by omega, fun e he => by have := hq e he; omega, fun e he => by have := hq e he; omega⟩, by omega, by omega, hq, by omega, by omega⟩

/- Two lists, put together. -/
theorem concat_c (a b : List Segment) (ha : a.length < 1099511627776) (hb : b.length < 1099511627776) : PureCall Try.prog F.slices_Concat_Segment [asl [[asl (a.map Segment.enc)], [asl (b.map Segment.enc)]]] (asl ((a ++ b).map Segment.enc)) := by
  refine contractS fits K.slices_Concat_Segment ?_
  have h1 : IntKind.i64.wrap ((0 : Int) + ((a.map Segment.enc).length : Int)) = (a.length : Int) := by rw [List.length_map, wrap_in (by omega)]; omega
  have h2 : IntKind.i64.wrap ((a.length : Int) + ((b.map Segment.enc).length : Int)) = (a.length : Int) + b.length := by rw [List.length_map, wrap_in (by omega)]
  repeat' (first
      | (exfalso; revert h; decide)
      | ((with_reducible refine step ?_); conv => whnf)
      | (refine loop_nextD 2 ?_)
      | (refine And.intro trivial (And.intro (by decide) (Exists.intro _ (And.intro rfl (And.intro rfl ?_)))); conv => whnf)
      | ((with_reducible refine And.intro (fun h => ?_) (fun h => ?_)) <;> try (exfalso; simp only [List.length_map, List.length_cons, List.length_nil, IntKind.wrap_i64, decide_eq_true_eq, decide_eq_false_iff_not, Bool.not_eq_true', Bool.not_eq_false'] at h; omega))
      | (rw [h1, h2]; refine vcall_inS fits K.slices_Grow_Segment rfl rfl ?_; conv => whnf)
      | (refine And.intro ?_ ?_; (focus (first | (simp [elemsOk, AV.oneC, big, Segment.enc]; (try omega); done) | (simp [IntKind.wrap_i64, big]; omega))); conv => whnf)
      | fail)
  all_goals simp
end Go.Proofs.Ytmapiefbnjaikaa.Vm
/- Contracts: steps of packets. -/
set_option linter.all false
namespace Go.Proofs.Ytmapiefbnjaikaa.Vm
open Go
set_option maxRecDepth 100000
set_option maxHeartbeats 4000000

theorem dropWhile_at {α : Type} {p : α → Bool} : ∀ (l : List α) (i : Nat), (∀ y ∈ l.take i, p y = true) → (∀ h : i < l.length, p l[i] = false) → l.drop i = l.dropWhile p := by
  intro l
  induction l with
  | nil => intro i _ _; simp
  | cons a l ih =>
    intro i h1 h2
    cases i with
    | zero => have := h2 (by simp); rw [List.dropWhile_cons_of_neg (by simpa using this)]; rfl
    | succ i => rw [List.dropWhile_cons_of_pos (h1 a (by simp)), List.drop_succ_cons]; exact ih i (fun y hy => h1 y (by simp [hy])) (fun h => h2 (by simpa using h))

def route (t : Topology) (x : Table) (p : Packet) (stack : List Segment) : Way := routeG t x p stack (routeG t x p [] ([], [], 0))
theorem route_c (t : Topology) (x : Table) (p : Packet) (stack : List Segment) (hf : Fit t x) (hv : x.valid t = true) (hs : stack.length ≤ 32) :
    PureCall Try.prog F.ref23_Route [.agg t.enc, .agg x.enc, .agg p.enc, asl (stack.map Segment.enc)] (eWay (route t x p stack)) :=
  routeG_c t x p stack _ hf hv hs fun _ => routeG_c t x p [] _ hf hv (by simp) fun h => by simp at h
def own (x : Table) (s : Segment) : Bool := decide (s = ⟨1, x.node⟩)
abbrev Stepped := List Int × Packet × Int
def eStep (r : Stepped) : AV := .tuple [asl (r.1.map eInt), .agg r.2.1.enc, ai r.2.2]
def stepR (t : Topology) (x : Table) (p : Packet) : Stepped :=
  if x.valid t = false ∨ p.dst < 0 ∨ t.nodes ≤ p.dst then ([], p, 1) else if 32 < p.stack.length then ([], p, 5) else
  if (route t x p (p.stack.dropWhile (own x))).2.2 = -1 then ((route t x p (p.stack.dropWhile (own x))).1, { p with stack := [] }, (route t x p (p.stack.dropWhile (own x))).2.2)
  else if (route t x p (p.stack.dropWhile (own x))).2.2 = 0 then ((route t x p (p.stack.dropWhile (own x))).1, { p with stack := (route t x p (p.stack.dropWhile (own x))).2.1, hops := IntKind.i64.wrap (p.hops + 1) }, (route t x p (p.stack.dropWhile (own x))).2.2)
  else ((route t x p (p.stack.dropWhile (own x))).1, p, (route t x p (p.stack.dropWhile (own x))).2.2)
theorem drop_win (l : List Segment) (i : Nat) : ((l.map Segment.enc).drop i).take (l.length - i) = (l.drop i).map Segment.enc := by
  rw [← List.map_drop, List.take_of_length_le (by simp)]

theorem idx_at {es : List (List AV)} {i : Int} {j n : Nat} {R : List AV → Prop} {p : Prop} (hp : p) (hij : i = j) {c : List AV} (hc : es[j]? = some c) (hl : c.length = n) (h : R c) :
    p ∧ 0 ≤ i ∧ ∃ c, es[i.toNat]? = some c ∧ c.length = n ∧ R c := by
  subst hij; exact ⟨hp, by omega, c, by simpa using hc, hl, h⟩
theorem nrm_sref {s : List VObj} {id ver esz off len : Nat} {nn : Option Bool} {es : List (List AV)} {fz : Bool} (ho : getO s id = .arr ver esz nn es fz) (h : off + len ≤ es.length) : nrmD s (.sref id ver esz off len) = .sl none false ((es.drop off).take len) := by
  show nrm s (.sref id ver esz off len) = _
  simp only [nrm, ho, Nat.beq_refl, Bool.true_and]
  rw [Nat.ble_eq_true_of_le h]
theorem step23_c (t : Topology) (x : Table) (p : Packet) (hf : Fit t x) : PureCall Try.prog F.ref23_Step [.agg t.enc, .agg x.enc, .agg p.enc] (eStep (stepR t x p)) := by
  refine contractS fits K.ref23_Step ?_
  have hval := tableValid22_c t x hf
  repeat' (first
      | (exfalso; revert h; decide)
      | ((with_reducible refine step ?_); conv => whnf)
      | (refine call_pure hval rfl rfl ?_; conv => whnf)
      | (with_reducible refine And.intro (fun h => ?_) (fun h => ?_))
      | fail)
  all_goals try simp only [List.length_map, decide_eq_true_eq, decide_eq_false_iff_not, Bool.not_eq_true', Bool.not_eq_false'] at *
  iterate 4 (focus (unfold stepR; (repeat' split) <;> first | rfl | contradiction | (exfalso; omega) | (exfalso; simp_all; done) | (exfalso; simp_all; omega)))
  refine And.intro (And.intro trivial (And.intro trivial (And.intro (segDrop p.stack 0) (by simp [big]; omega)))) ?_
  conv => whnf
  repeat' (first
      | ((with_reducible refine step ?_); conv => whnf)
      | fail)
  refine loop_srefD (k := 9) rfl rfl ?_
  have hL : ([] ++ List.map Segment.enc p.stack).length = p.stack.length := by simp
  refine loop_invS (fun i => i ≤ p.stack.length ∧ ∀ s ∈ p.stack.take i, own x s = true) [3, 4, 5, 7, 9] 5 (fun i => [(9, .sref 4 0 2 i (([] ++ List.map Segment.enc p.stack).length - i))]) (fun _ => []) (fun i => p.stack.length - i) 0 (by decide) (by decide) ?_
  conv => whnf
  refine ⟨rfl, rfl, by simp, fun i ⟨hi, hp⟩ => ?_⟩
  have hL2 : (([] ++ List.map Segment.enc p.stack).length : Int) = p.stack.length := by rw [hL]
  repeat' (first
      | (exfalso; revert h; decide)
      | ((with_reducible refine step ?_); conv => whnf)
      | (with_reducible refine And.intro (fun h => ?_) (fun h => ?_))
      | (have hlt : i < p.stack.length := (by simp only [decide_eq_true_eq, hL] at h; omega); refine And.intro ⟨rfl, by decide, by rw [hL]; omega⟩ ?_; conv => whnf)
      | (refine And.intro ⟨rfl, by decide, by rw [hL]; omega⟩ ?_; conv => whnf)
      | (refine idx_at rfl rfl (c := p.stack[i].enc) (by simp [hlt]) rfl ?_; conv => whnf)
      | (have hC := route_c t x p (p.stack.drop i) hf (by assumption) (by rw [List.length_drop]; omega); refine call_pure hC ?_ rfl ?_; (focus (simp only [List.map_cons, List.map_nil]; rw [nrm_sref (nn := none) (fz := false) (es := [] ++ p.stack.map Segment.enc) rfl (by rw [hL]; omega), ← drop_win, ← hL]; rfl)); conv => whnf)
      | fail)
  all_goals try simp only [decide_eq_true_eq, decide_eq_false_iff_not, Bool.not_eq_true', Bool.not_eq_false', Bool.and_eq_true, Bool.and_eq_false_iff, Bool.and_true, hL2] at *
  · refine ⟨i + 1, ⟨by omega, all_take_succ hlt hp ?_⟩, by omega, rfl, rfl⟩
    generalize p.stack[i] = y at h
    obtain ⟨y1, y2⟩ := y
    simpa [own] using h
  all_goals
    have hdw : p.stack.drop i = p.stack.dropWhile (own x) := dropWhile_at p.stack i hp (fun hlt' => by
      first
      | (exfalso; omega)
      | (simp only [own, decide_eq_false_iff_not]
         intro he
         simp only [he, true_and, false_or, or_false, not_true_eq_false, or_self] at *))
    unfold stepR
    rw [← hdw]
    clear hdw hval
    (repeat' split) <;> first | rfl | contradiction | (exfalso; omega) | (exfalso; simp_all; done) | (exfalso; simp_all; omega)
end Go.Proofs.Ytmapiefbnjaikaa.Vm
/- Contracts: distances, next arcs and routes of the reference. -/
set_option linter.all false
namespace Go.Proofs.Ytmapiefbnjaikaa.Vm
open Go
set_option maxRecDepth 100000
set_option maxHeartbeats 4000000

def Topology.ovl (t : Topology) (n : Int) : Bool := t.valid && decide (0 ≤ n) && decide (n < t.overload.length) && t.overload.getD n.toNat false
theorem overloaded9_c (t : Topology) (n : Int) : PureCall Try.prog F.ref09_Overloaded [.agg t.enc, ai n] (.bool (t.ovl n)) := by
  refine contractS fits K.ref09_Overloaded ?_
  have hlm : (t.overload.map eBool).length = t.overload.length := List.length_map ..
  repeat' (first
      | ((with_reducible refine step ?_); conv => whnf) | ((with_reducible refine br_dec (fun h => ?_) (fun h => ?_)) <;> try (exfalso; omega)) | ((with_reducible refine br_ndec (fun h => ?_) (fun h => ?_)) <;> try (exfalso; omega)) | (with_reducible refine br_not (fun h => ?_) (fun h => ?_)) | (with_reducible refine And.intro (fun h => ?_) (fun h => ?_))
      | (refine call_pure (valid9_c t) rfl rfl ?_; conv => whnf)
      | (have hlt : n.toNat < t.overload.length := (by omega); refine idx_int (j := n.toNat) (by omega) hlt rfl ?_; conv => whnf)
      | fail)
  all_goals refine congrArg AV.bool ?_
  all_goals simp only [Topology.ovl]
  all_goals grind
theorem cost9_c (t : Topology) (a : Int) : PureCall Try.prog F.ref09_Cost [.agg t.enc, ai a] (ai (t.cost a)) := by
  refine contractS fits K.ref09_Cost ?_
  repeat' (first
    | ((with_reducible refine step ?_); conv => whnf) | ((with_reducible refine br_dec (fun h => ?_) (fun h => ?_)) <;> try (exfalso; omega)) | ((with_reducible refine br_ndec (fun h => ?_) (fun h => ?_)) <;> try (exfalso; omega)) | (with_reducible refine br_not (fun h => ?_) (fun h => ?_)) | (with_reducible refine And.intro (fun h => ?_) (fun h => ?_))
    | (refine call_pure (arcs9_c _) rfl rfl ?_; conv => whnf)
    | (with_reducible refine And.intro (show (_ : Int) ≠ 0 by decide) ?_; conv => whnf)
    | (have hq := arcs_le (t := t) (a := a) (by assumption) (by assumption); refine idx_int (half (by assumption) (by omega)) hq.1 rfl ?_; conv => whnf)
    | fail)
  · show _ = ai _; rw [Topology.cost, if_pos (by omega)]
  · show _ = ai _; rw [Topology.cost, if_pos (by omega)]
  · rename_i h0
    rw [tmod2 (by assumption)]
    have e : a % 2 = 0 ∨ a % 2 = 1 := by omega
    rcases e with e | e
    all_goals
      rw [e]
      first | refine ⟨0, rfl, by decide, ?_⟩ | refine ⟨1, rfl, by decide, ?_⟩
      conv => whnf
      repeat' (first
        | ((with_reducible refine step ?_); conv => whnf) | ((with_reducible refine br_dec (fun h => ?_) (fun h => ?_)) <;> try (exfalso; omega)) | ((with_reducible refine br_ndec (fun h => ?_) (fun h => ?_)) <;> try (exfalso; omega)) | (with_reducible refine br_not (fun h => ?_) (fun h => ?_)) | (with_reducible refine And.intro (fun h => ?_) (fun h => ?_))
        | fail)
      show ai _ = ai (t.cost a)
      rw [Topology.cost, if_neg (by omega)]
      first | rw [if_pos e, at_get] | rw [if_neg (by omega), at_get]
def fits11 (t : Topology) (down : List Bool) : Bool := t.valid && (decide (down.length = 0) || decide ((down.length : Int) = 2 * t.links.length))
theorem fits11_c (t : Topology) (down : List Bool) : PureCall Try.prog F.ref11_Fits [.agg t.enc, asl (down.map eBool)] (.bool (fits11 t down)) := by
  refine contractS fits K.ref11_Fits ?_
  have hlm : (down.map eBool).length = down.length := List.length_map ..
  repeat' (first
      | ((with_reducible refine step ?_); conv => whnf) | ((with_reducible refine br_dec (fun h => ?_) (fun h => ?_)) <;> try (exfalso; omega)) | ((with_reducible refine br_ndec (fun h => ?_) (fun h => ?_)) <;> try (exfalso; omega)) | (with_reducible refine br_not (fun h => ?_) (fun h => ?_)) | (with_reducible refine And.intro (fun h => ?_) (fun h => ?_))
      | (refine call_pure (valid9_c t) rfl rfl ?_; conv => whnf)
      | fail)
  all_goals refine congrArg AV.bool ?_
  all_goals simp only [fits11]
  · have : down.length = 0 := by omega
    simp [*]
  · have hl := valid_links (by assumption)
    have hl2 : IntKind.i64.wrap (2 * ((t.links.map Link.enc).length : Int)) = 2 * t.links.length := by rw [List.length_map, wrap_in (by omega)]
    rw [hl2]
    grind
  · grind
def upB (down : List Bool) (a : Int) : Bool := decide (down.length = 0) || !(down.getD a.toNat false)
theorem up_c (down : List Bool) (a : Int) (h0 : down.length = 0 ∨ (0 ≤ a ∧ a < down.length)) : PureCall Try.prog F.ref11_Up [asl (down.map eBool), ai a] (.bool (upB down a)) := by
  refine contractS fits K.ref11_Up ?_
  have hlm : (down.map eBool).length = down.length := List.length_map ..
  repeat' (first
      | ((with_reducible refine step ?_); conv => whnf) | ((with_reducible refine br_dec (fun h => ?_) (fun h => ?_)) <;> try (exfalso; omega)) | ((with_reducible refine br_ndec (fun h => ?_) (fun h => ?_)) <;> try (exfalso; omega)) | (with_reducible refine br_not (fun h => ?_) (fun h => ?_)) | (with_reducible refine And.intro (fun h => ?_) (fun h => ?_))
      | (have hlt : a.toNat < down.length := (by omega); refine idx_int (j := a.toNat) (by omega) hlt rfl ?_; conv => whnf)
      | fail)
  all_goals refine congrArg AV.bool ?_
  all_goals simp only [upB]
  all_goals grind
def transit (t : Topology) (n e : Int) : Bool := decide (n = e) || !t.ovl n
theorem transit_c (t : Topology) (n e : Int) : PureCall Try.prog F.ref11_transit [.agg t.enc, ai n, ai e] (.bool (transit t n e)) := by
  refine contractS fits K.ref11_transit ?_
  repeat' (first
      | ((with_reducible refine step ?_); conv => whnf) | ((with_reducible refine br_dec (fun h => ?_) (fun h => ?_)) <;> try (exfalso; omega)) | ((with_reducible refine br_ndec (fun h => ?_) (fun h => ?_)) <;> try (exfalso; omega)) | (with_reducible refine br_not (fun h => ?_) (fun h => ?_)) | (with_reducible refine And.intro (fun h => ?_) (fun h => ?_))
      | (refine call_pure (overloaded9_c t n) rfl rfl ?_; conv => whnf)
      | fail)
  all_goals refine congrArg AV.bool ?_
  all_goals simp only [transit]
  all_goals grind
theorem ends_range {t : Topology} {a : Int} (h0 : 0 ≤ a) (h : a < t.arcs) : 0 ≤ t.tail a ∧ t.tail a < t.nodes ∧ 0 ≤ t.head a ∧ t.head a < t.nodes := by
  obtain ⟨q1, q2, q3, q4⟩ := arcs_le (t := t) (a := a) (by omega) (by omega)
  have hn := valid_nodes q3
  have hp : (t.at_ a).proper t.nodes = true := by
    rw [← at_get q1]
    simp only [Topology.valid, Bool.and_eq_true, List.all_eq_true] at q3
    exact q3.2 _ (List.getElem_mem q1)
  simp only [Link.proper, Bool.and_eq_true, decide_eq_true_eq, wrap_in (n := t.nodes - 1) (by omega)] at hp
  unfold Topology.tail Topology.head
  have hc : ¬ (a < 0 ∨ t.arcs ≤ a) := by omega
  simp only [if_neg hc]
  by_cases h2 : a % 2 = 0
  · simp only [if_pos h2]; omega
  · simp only [if_neg h2]; omega

section
variable (t : Topology) (down : List Bool) (n : Int) (fr : Bool)
def relaxX (a : Int) : Int := if fr then t.head a else t.tail a
def relaxY (a : Int) : Int := if fr then t.tail a else t.head a
def relax (st : List Int × Bool) (a : Nat) : List Int × Bool :=
  if upB down a = false ∨ st.1.getD (relaxY t fr a).toNat 0 < 0 ∨ transit t (relaxY t fr a) n = false then st
  else if st.1.getD (relaxX t fr a).toNat 0 < 0 ∨ IntKind.i64.wrap (st.1.getD (relaxY t fr a).toNat 0 + t.cost a) < st.1.getD (relaxX t fr a).toNat 0 then
    (st.1.set (relaxX t fr a).toNat (IntKind.i64.wrap (st.1.getD (relaxY t fr a).toNat 0 + t.cost a)), true) else st
def passTo (out : List Int) (i : Nat) : List Int × Bool := (List.range i).foldl (relax t down n fr) (out, false)
def rounds : Nat → List Int × Bool
  | 0 => ((List.replicate t.nodes.toNat (-1)).set n.toNat 0, true)
  | k + 1 => passTo t down n fr (rounds k).1 (2 * t.links.length)
end
theorem relax_skip {t : Topology} {down : List Bool} {n : Int} {fr : Bool} {st : List Int × Bool} {a : Nat} (h : upB down a = false ∨ st.1.getD (relaxY t fr a).toNat 0 < 0 ∨ transit t (relaxY t fr a) n = false) : relax t down n fr st a = st := by
  unfold relax; rw [if_pos h]
theorem relax_keep {t : Topology} {down : List Bool} {n : Int} {fr : Bool} {st : List Int × Bool} {a : Nat} (h1 : ¬ st.1.getD (relaxX t fr a).toNat 0 < 0) (h2 : ¬ IntKind.i64.wrap (st.1.getD (relaxY t fr a).toNat 0 + t.cost a) < st.1.getD (relaxX t fr a).toNat 0) : relax t down n fr st a = st := by
  unfold relax; split
  · rfl
  · rw [if_neg (by omega)]
theorem relax_set {t : Topology} {down : List Bool} {n : Int} {fr : Bool} {st : List Int × Bool} {a : Nat} (h0 : upB down a = true) (h1 : ¬ st.1.getD (relaxY t fr a).toNat 0 < 0) (h2 : transit t (relaxY t fr a) n = true)
    (h : st.1.getD (relaxX t fr a).toNat 0 < 0 ∨ IntKind.i64.wrap (st.1.getD (relaxY t fr a).toNat 0 + t.cost a) < st.1.getD (relaxX t fr a).toNat 0) :
    relax t down n fr st a = (st.1.set (relaxX t fr a).toNat (IntKind.i64.wrap (st.1.getD (relaxY t fr a).toNat 0 + t.cost a)), true) := by
  unfold relax; rw [if_neg (fun hq => by rcases hq with hq | hq | hq; rw [h0] at hq; exact nomatch hq; exact h1 hq; rw [h2] at hq; exact nomatch hq), if_pos h]
theorem relax_len (t : Topology) (down : List Bool) (n : Int) (fr : Bool) (st : List Int × Bool) (a : Nat) : (relax t down n fr st a).1.length = st.1.length := by
  unfold relax; repeat' split
  all_goals simp
theorem passTo_succ (t : Topology) (down : List Bool) (n : Int) (fr : Bool) (out : List Int) (i : Nat) : passTo t down n fr out (i + 1) = relax t down n fr (passTo t down n fr out i) i := by
  simp [passTo, List.range_succ]
theorem passTo_len (t : Topology) (down : List Bool) (n : Int) (fr : Bool) (out : List Int) (i : Nat) : (passTo t down n fr out i).1.length = out.length := by
  induction i with
  | zero => rfl
  | succ i ih => rw [passTo_succ, relax_len, ih]
theorem rounds_len (t : Topology) (down : List Bool) (n : Int) (fr : Bool) (k : Nat) : (rounds t down n fr k).1.length = t.nodes.toNat := by
  induction k with
  | zero => simp [rounds]
  | succ k ih => rw [rounds, passTo_len, ih]
theorem fits_valid {t : Topology} {down : List Bool} (h : fits11 t down = true) : t.valid = true ∧ (down.length = 0 ∨ (down.length : Int) = 2 * t.links.length) := by
  simpa [fits11] using h

theorem set_rep {α : Type} (a b : α) (N i : Nat) (h : i < N) : (List.replicate i a ++ List.replicate (N - i) b).set i a = List.replicate (i + 1) a ++ List.replicate (N - (i + 1)) b := by
  rw [List.set_append_right _ _ (by simp), List.length_replicate, Nat.sub_self, show N - i = (N - (i + 1)) + 1 by omega, List.replicate_succ, List.set_cons_zero, List.replicate_succ', List.append_assoc]
  rfl
theorem repB_get {α : Type} (a b : α) (N i : Nat) (h : i < N) : (List.replicate i a ++ List.replicate (N - i) b)[i]? = some b := by
  rw [List.getElem?_append_right (by simp), List.length_replicate, Nat.sub_self, List.getElem?_replicate, if_pos (by omega)]
theorem repA_get {α : Type} (a : α) (l : List α) (i j : Nat) (h : j < i) : (List.replicate i a ++ l)[j]? = some a := by
  rw [List.getElem?_append_left (by simpa using h), List.getElem?_replicate, if_pos h]
theorem get_map {l : List Int} {j : Nat} (h : j < l.length) : (l.map eInt)[j]? = some (eInt (l.getD j 0)) := by
  rw [List.getElem?_map, List.getElem?_eq_getElem h, getD_at h]; rfl
theorem search_c (t : Topology) (down : List Bool) (n : Int) (fr : Bool) (k : Nat) (hf : fits11 t down = true) (h0 : 0 ≤ n) (hn : n < t.nodes) (hK : (rounds t down n fr k).2 = false) (hk : ∀ i, i < k → (rounds t down n fr i).2 = true) :
    PureCall Try.prog F.ref11_search [.agg t.enc, asl (down.map eBool), ai n, .bool fr] (.tuple [asl ((rounds t down n fr k).1.map eInt), ai 0]) := by
  refine contractS fits K.ref11_search ?_
  obtain ⟨hv, hd⟩ := fits_valid hf
  have hnn := valid_nodes hv
  have hll := valid_links hv
  have hff := fits11_c t down
  rw [hf] at hff
  have hnl : (List.replicate t.nodes.toNat [AV.int IntKind.i64 0]).length = t.nodes.toNat := List.length_replicate ..
  repeat' (first
      | contradiction
      | ((with_reducible refine step ?_); conv => whnf) | ((with_reducible refine br_dec (fun h => ?_) (fun h => ?_)) <;> try (exfalso; omega)) | ((with_reducible refine br_ndec (fun h => ?_) (fun h => ?_)) <;> try (exfalso; omega)) | (with_reducible refine br_not (fun h => ?_) (fun h => ?_)) | (with_reducible refine And.intro (fun h => ?_) (fun h => ?_))
      | (refine call_pure hff rfl rfl ?_; conv => whnf)
      | (refine And.intro (by simp [big]; omega) ?_; conv => whnf)
      | fail)
  rename_i hn0 hn1
  have hN : (t.nodes.toNat : Int) = t.nodes := by omega
  generalize hNN : t.nodes.toNat = N at hnl hN
  have hes : ∀ i, i ≤ N → (List.replicate i [ai (-1)] ++ List.replicate (N - i) [ai 0]).length = N := fun i hi => by simp; omega
  refine loop_invS (fun i => i ≤ N) [1, 2, 3, 4, 10, 11] 2 (fun i => [(11, ai i)]) (fun i => [(1, .arr 0 1 (some false) (List.replicate i [ai (-1)] ++ List.replicate (N - i) [ai 0]) false)]) (fun i => N - i) 0 (by decide) (by decide) ?_
  conv => whnf
  refine ⟨rfl, rfl, by omega, fun i hi => ?_⟩
  have hesi := hes i hi
  repeat' (first
      | ((with_reducible refine step ?_); conv => whnf) | ((with_reducible refine br_dec (fun h => ?_) (fun h => ?_)) <;> try (exfalso; omega)) | ((with_reducible refine br_ndec (fun h => ?_) (fun h => ?_)) <;> try (exfalso; omega)) | (with_reducible refine br_not (fun h => ?_) (fun h => ?_)) | (with_reducible refine And.intro (fun h => ?_) (fun h => ?_))
      | (refine idx_at (j := i) rfl (by simp) (c := [ai 0]) (repB_get _ _ N i (by omega)) rfl ?_; conv => whnf)
      | (refine idx_at (j := n.toNat) rfl rfl (c := [ai (-1)]) (repA_get _ _ _ _ (by omega)) rfl ?_; conv => whnf)
      | (refine And.intro rfl ?_; conv => whnf)
      | (refine And.intro ⟨rfl, by omega, by omega⟩ ?_; conv => whnf)
      | fail)
  · refine ⟨i + 1, by omega, by omega, by rw [wrap_succ (by omega)]; rfl, ?_⟩
    have := set_rep [ai (-1)] [ai 0] N i (by omega)
    rw [← this]; rfl
  obtain rfl : i = N := by omega
  have e0 : (List.replicate i [ai (-1)] ++ List.replicate (i - i) [ai 0]).set n.toNat [ai 0] = (rounds t down n fr 0).1.map eInt := by
    simp [rounds, hNN, List.map_set, eInt]
  subst hNN
  clear hes hnl hesi hff
  refine loop_invS (fun i => i ≤ k) [1, 2, 3, 4, 10, 12] 2 (fun i => [(12, .bool (rounds t down n fr i).2)]) (fun i => [(1, .arr 0 1 (some false) ((rounds t down n fr i).1.map eInt) false)]) (fun i => k - i) 0 (by decide) (by decide) ?_
  conv => whnf
  refine ⟨rfl, by rw [← e0]; rfl, by omega, fun i hi => ?_⟩
  clear e0
  have hlen := rounds_len t down n fr i
  have hrs : rounds t down n fr (i + 1) = passTo t down n fr (rounds t down n fr i).1 (2 * t.links.length) := rfl
  have hki : (rounds t down n fr i).2 = false → i = k := fun h => by
    rcases Nat.lt_or_ge i k with hlt | hge
    · rw [hk i hlt] at h; exact nomatch h
    · omega
  have hik : (rounds t down n fr i).2 = true → i < k := fun h => by
    rcases Nat.lt_or_ge i k with hlt | hge
    · exact hlt
    · obtain rfl : i = k := by omega
      rw [hK] at h; exact nomatch h
  have hlm : (t.links.map Link.enc).length = t.links.length := List.length_map ..
  have hw2 : IntKind.i64.wrap (2 * ((t.links.map Link.enc).length : Int)) = 2 * t.links.length := by rw [hlm, wrap_in (by omega)]
  have hint : ((rounds t down n fr i).1.map eInt).length = (rounds t down n fr i).1.length := List.length_map ..
  repeat' (first
      | contradiction
      | ((with_reducible refine step ?_); conv => whnf) | ((with_reducible refine br_dec (fun h => ?_) (fun h => ?_)) <;> try (exfalso; omega)) | ((with_reducible refine br_ndec (fun h => ?_) (fun h => ?_)) <;> try (exfalso; omega)) | (with_reducible refine br_not (fun h => ?_) (fun h => ?_)) | (with_reducible refine And.intro (fun h => ?_) (fun h => ?_))
      | fail)
  rotate_right
  · rw [hki h]
  have hik := hik h
  clear hki
  generalize hout : (rounds t down n fr i).1 = out at hlen hrs hint
  refine loop_invS (fun j => j ≤ 2 * t.links.length) [1, 2, 3, 4, 10, 12, 13] 2 (fun j => [(12, .bool (passTo t down n fr out j).2), (13, ai j)]) (fun j => [(1, .arr 0 1 (some false) ((passTo t down n fr out j).1.map eInt) false)]) (fun j => 2 * t.links.length - j) 0 (by decide) (by decide) ?_
  conv => whnf
  refine ⟨rfl, rfl, by omega, fun j hj => ?_⟩
  have hSl := passTo_len t down n fr out j
  have hss := passTo_succ t down n fr out j
  generalize hS : passTo t down n fr out j = S at hSl hss
  have hmm : (S.1.map eInt).length = S.1.length := List.length_map ..
  have hrng := fun (h : j < 2 * t.links.length) => ends_range (t := t) (a := (j : Int)) (by omega) (by rw [arcs_valid hv]; omega)
  cases fr
  all_goals
    repeat' (first
      | contradiction
      | ((with_reducible refine step ?_); conv => whnf) | ((with_reducible refine br_dec (fun h => ?_) (fun h => ?_)) <;> try (exfalso; omega)) | ((with_reducible refine br_ndec (fun h => ?_) (fun h => ?_)) <;> try (exfalso; omega)) | (with_reducible refine br_not (fun h => ?_) (fun h => ?_)) | (with_reducible refine And.intro (fun h => ?_) (fun h => ?_))
      | (have hjl : j < 2 * t.links.length := (by omega); have hr := hrng hjl; refine call_pure (tail9_c t _) rfl rfl ?_; conv => whnf)
      | (refine call_pure (head9_c t _) rfl rfl ?_; conv => whnf)
      | (refine call_pure (cost9_c t _) rfl rfl ?_; conv => whnf)
      | (refine call_pure (up_c down _ (by omega)) rfl rfl ?_; conv => whnf)
      | (refine call_pure (transit_c t _ n) rfl rfl ?_; conv => whnf)
      | (refine idx_at (es := S.1.map eInt) (j := (t.head j).toNat) rfl rfl (get_map (by omega)) rfl ?_; conv => whnf)
      | (refine idx_at (es := S.1.map eInt) (j := (t.tail j).toNat) rfl rfl (get_map (by omega)) rfl ?_; conv => whnf)
      | (refine And.intro ⟨rfl, by omega, by omega⟩ ?_; conv => whnf)
      | fail)
  all_goals first
    | (rw [relax_skip (.inl (by assumption))] at hss
       exact ⟨j + 1, by omega, by omega, by rw [wrap_succ (by omega), hss]; rfl, by rw [hss]; rfl⟩)
    | (rw [relax_skip (.inr (.inl (by assumption)))] at hss
       exact ⟨j + 1, by omega, by omega, by rw [wrap_succ (by omega), hss]; rfl, by rw [hss]; rfl⟩)
    | (rw [relax_skip (.inr (.inr (by assumption)))] at hss
       exact ⟨j + 1, by omega, by omega, by rw [wrap_succ (by omega), hss]; rfl, by rw [hss]; rfl⟩)
    | (rw [relax_set (by assumption) (by assumption) (by assumption) (.inl (by assumption))] at hss
       exact ⟨j + 1, by omega, by omega, by rw [wrap_succ (by omega), hss]; rfl, by rw [hss, List.map_set]; rfl⟩)
    | (rw [relax_set (by assumption) (by assumption) (by assumption) (.inr (by assumption))] at hss
       exact ⟨j + 1, by omega, by omega, by rw [wrap_succ (by omega), hss]; rfl, by rw [hss, List.map_set]; rfl⟩)
    | (rw [relax_keep (by assumption) (by assumption)] at hss
       exact ⟨j + 1, by omega, by omega, by rw [wrap_succ (by omega), hss]; rfl, by rw [hss]; rfl⟩)
    | (obtain rfl : j = 2 * t.links.length := by omega
       exact ⟨i + 1, by omega, by omega, by rw [hrs, hS]; rfl, by rw [hrs, hS]; rfl⟩)
end Go.Proofs.Ytmapiefbnjaikaa.Vm
/- Contracts: next arcs and routes of the reference, where nothing is down. -/
set_option linter.all false
namespace Go.Proofs.Ytmapiefbnjaikaa.Vm
open Go
set_option maxRecDepth 100000
set_option maxHeartbeats 4000000

def DistOk (t : Topology) (down : List Bool) (d : Int) (k : Nat) : Prop := fits11 t down = true ∧ 0 ≤ d ∧ d < t.nodes ∧ (rounds t down d false k).2 = false ∧ ∀ i, i < k → (rounds t down d false i).2 = true
theorem dist_c (t : Topology) (down : List Bool) (d : Int) (k : Nat) (h : DistOk t down d k) : PureCall Try.prog F.ref11_Dist [.agg t.enc, asl (down.map eBool), ai d] (.tuple [asl ((rounds t down d false k).1.map eInt), ai 0]) := by
  refine contractS fits K.ref11_Dist ?_
  obtain ⟨h1, h2, h3, h4, h5⟩ := h
  repeat' (first
      | ((with_reducible refine step ?_); conv => whnf) | ((with_reducible refine br_dec (fun h => ?_) (fun h => ?_)) <;> try (exfalso; omega)) | ((with_reducible refine br_ndec (fun h => ?_) (fun h => ?_)) <;> try (exfalso; omega)) | (with_reducible refine br_not (fun h => ?_) (fun h => ?_)) | (with_reducible refine And.intro (fun h => ?_) (fun h => ?_))
      | (refine call_pure (search_c t down d false k h1 h2 h3 h4 h5) rfl rfl ?_; conv => whnf)
      | fail)
  all_goals rfl
def onB (t : Topology) (down : List Bool) (D : List Int) (a d : Int) : Bool :=
  upB down a && !decide (t.tail a = d) && decide (0 ≤ D.getD (t.head a).toNat 0) && transit t (t.head a) d && decide (D.getD (t.tail a).toNat 0 = IntKind.i64.wrap (D.getD (t.head a).toNat 0 + t.cost a))
theorem on_c (t : Topology) (down : List Bool) (D : List Int) (a d : Int) (hf : fits11 t down = true) (hD : (D.length : Int) = t.nodes) (h0 : 0 ≤ a) (ha : a < 2 * t.links.length) :
    PureCall Try.prog F.ref11_On [.agg t.enc, asl (down.map eBool), asl (D.map eInt), ai a, ai d] (.bool (onB t down D a d)) := by
  refine contractS fits K.ref11_On ?_
  obtain ⟨hv, hd⟩ := fits_valid hf
  have hr := ends_range (t := t) (a := a) h0 (by rw [arcs_valid hv]; exact ha)
  have hm : (D.map eInt).length = D.length := List.length_map ..
  repeat' (first
      | ((with_reducible refine step ?_); conv => whnf) | ((with_reducible refine br_dec (fun h => ?_) (fun h => ?_)) <;> try (exfalso; omega)) | ((with_reducible refine br_ndec (fun h => ?_) (fun h => ?_)) <;> try (exfalso; omega)) | (with_reducible refine br_not (fun h => ?_) (fun h => ?_)) | (with_reducible refine And.intro (fun h => ?_) (fun h => ?_))
      | (refine call_pure (tail9_c t _) rfl rfl ?_; conv => whnf)
      | (refine call_pure (head9_c t _) rfl rfl ?_; conv => whnf)
      | (refine call_pure (cost9_c t _) rfl rfl ?_; conv => whnf)
      | (refine call_pure (up_c down a (by omega)) rfl rfl ?_; conv => whnf)
      | (refine call_pure (transit_c t _ d) rfl rfl ?_; conv => whnf)
      | (refine idx_at (es := D.map eInt) (j := (t.head a).toNat) trivial (by omega) (get_map (by omega)) rfl ?_; conv => whnf)
      | (refine idx_at (es := D.map eInt) (j := (t.tail a).toNat) trivial (by omega) (get_map (by omega)) rfl ?_; conv => whnf)
      | fail)
  all_goals refine congrArg AV.bool ?_
  all_goals simp only [onB]
  all_goals grind
def nextL (t : Topology) (down : List Bool) (D : List Int) (n d : Int) (i : Nat) : List Int := ((List.range i).filter fun a : Nat => decide (t.tail (a : Int) = n) && onB t down D a d).map fun a : Nat => (a : Int)
theorem nextL_succ (t : Topology) (down : List Bool) (D : List Int) (n d : Int) (i : Nat) : nextL t down D n d (i + 1) = nextL t down D n d i ++ (if (decide (t.tail (i : Int) = n) && onB t down D i d) = true then [(i : Int)] else []) := by
  unfold nextL
  rw [List.range_succ, List.filter_append, List.map_append]
  congr 1
  split <;> rename_i h <;> simp [h]
theorem nextL_len (t : Topology) (down : List Bool) (D : List Int) (n d : Int) (i : Nat) : (nextL t down D n d i).length ≤ i := by
  unfold nextL; rw [List.length_map]; exact Nat.le_trans (List.length_filter_le _ _) (by simp)
theorem next12_c (t : Topology) (down : List Bool) (D : List Int) (n d : Int) (hf : fits11 t down = true) (hD : (D.length : Int) = t.nodes) :
    PureCall Try.prog F.ref12_next [.agg t.enc, asl (down.map eBool), asl (D.map eInt), ai n, ai d] (asl ((nextL t down D n d (2 * t.links.length)).map eInt)) := by
  refine contractS fits K.ref12_next ?_
  obtain ⟨hv, hd⟩ := fits_valid hf
  have hll := valid_links hv
  have hlm : (t.links.map Link.enc).length = t.links.length := List.length_map ..
  have hw2 : IntKind.i64.wrap (2 * ((t.links.map Link.enc).length : Int)) = 2 * t.links.length := by rw [hlm, wrap_in (by omega)]
  repeat' (first
      | ((with_reducible refine step ?_); conv => whnf) | ((with_reducible refine br_dec (fun h => ?_) (fun h => ?_)) <;> try (exfalso; omega)) | ((with_reducible refine br_ndec (fun h => ?_) (fun h => ?_)) <;> try (exfalso; omega)) | (with_reducible refine br_not (fun h => ?_) (fun h => ?_)) | (with_reducible refine And.intro (fun h => ?_) (fun h => ?_))
      | fail)
  refine loop_promoteD (k := 11) (esz := 1) rfl (by decide) ?_
  refine loop_invS (fun i => i ≤ 2 * t.links.length) [1, 2, 3, 4, 5, 11, 12] 2 (fun i => [(12, ai i)]) (fun i => [(1, .arr 0 1 none ((nextL t down D n d i).map eInt) false)]) (fun i => 2 * t.links.length - i) 0 (by decide) (by decide) ?_
  conv => whnf
  refine ⟨rfl, rfl, by omega, fun i hi => ?_⟩
  have hss := nextL_succ t down D n d i
  have hnl := nextL_len t down D n d i
  repeat' (first
      | ((with_reducible refine step ?_); conv => whnf) | ((with_reducible refine br_dec (fun h => ?_) (fun h => ?_)) <;> try (exfalso; omega)) | ((with_reducible refine br_ndec (fun h => ?_) (fun h => ?_)) <;> try (exfalso; omega)) | (with_reducible refine br_not (fun h => ?_) (fun h => ?_)) | (with_reducible refine And.intro (fun h => ?_) (fun h => ?_))
      | (refine call_pure (tail9_c t _) rfl rfl ?_; conv => whnf)
      | (refine call_pure (on_c t down D _ d hf hD (by omega) (by omega)) rfl rfl ?_; conv => whnf)
      | (refine And.intro ?_ ?_; (focus (simp [elemsOk, AV.oneC, big, eInt]; (try omega); done)); conv => whnf)
      | fail)
  all_goals first
    | (have hc : (decide (t.tail (i : Int) = n) && onB t down D i d) = true := by simp [*]
       rw [if_pos hc] at hss
       exact ⟨i + 1, by omega, by omega, by rw [wrap_succ (by omega)]; rfl, by rw [hss, List.map_append]; rfl⟩)
    | (have hc : ¬ (decide (t.tail (i : Int) = n) && onB t down D i d) = true := by simp [*]
       rw [if_neg hc, List.append_nil] at hss
       exact ⟨i + 1, by omega, by omega, by rw [wrap_succ (by omega)]; rfl, by rw [hss]; rfl⟩)
    | (obtain rfl : i = 2 * t.links.length := by omega
       rfl)
theorem next_c (t : Topology) (down : List Bool) (n d : Int) (k : Nat) (hdk : DistOk t down d k) (h0 : 0 ≤ n) (hn : n < t.nodes) :
    PureCall Try.prog F.ref12_Next [.agg t.enc, asl (down.map eBool), ai n, ai d] (.tuple [asl ((nextL t down (rounds t down d false k).1 n d (2 * t.links.length)).map eInt), ai 0]) := by
  refine contractS fits K.ref12_Next ?_
  have hD : (((rounds t down d false k).1.length : Nat) : Int) = t.nodes := by rw [rounds_len]; have := valid_nodes (fits_valid hdk.1).1; omega
  repeat' (first
      | contradiction
      | ((with_reducible refine step ?_); conv => whnf) | ((with_reducible refine br_dec (fun h => ?_) (fun h => ?_)) <;> try (exfalso; omega)) | ((with_reducible refine br_ndec (fun h => ?_) (fun h => ?_)) <;> try (exfalso; omega)) | (with_reducible refine br_not (fun h => ?_) (fun h => ?_)) | (with_reducible refine And.intro (fun h => ?_) (fun h => ?_))
      | (refine call_pure (dist_c t down d k hdk) rfl rfl ?_; conv => whnf)
      | (refine call_pure (next12_c t down _ n d hdk.1 hD) rfl rfl ?_; conv => whnf)
      | fail)
  all_goals rfl
def outL (t : Topology) (n : Int) (i : Nat) : List Int := ((List.range i).filter fun a : Nat => decide (t.tail (a : Int) = n)).map fun a : Nat => (a : Int)
theorem outL_succ (t : Topology) (n : Int) (i : Nat) : outL t n (i + 1) = outL t n i ++ (if t.tail (i : Int) = n then [(i : Int)] else []) := by
  unfold outL
  rw [List.range_succ, List.filter_append, List.map_append]
  congr 1
  split <;> rename_i h <;> simp [h]
theorem outL_len (t : Topology) (n : Int) (i : Nat) : (outL t n i).length ≤ i := by
  unfold outL; rw [List.length_map]; exact Nat.le_trans (List.length_filter_le _ _) (by simp)
theorem out9_c (t : Topology) (n : Int) (hv : t.valid = true) : PureCall Try.prog F.ref09_Out [.agg t.enc, ai n] (asl ((outL t n (2 * t.links.length)).map eInt)) := by
  refine contractS fits K.ref09_Out ?_
  have hll := valid_links hv
  have har := arcs_valid hv
  repeat' (first
      | ((with_reducible refine step ?_); conv => whnf) | ((with_reducible refine br_dec (fun h => ?_) (fun h => ?_)) <;> try (exfalso; omega)) | ((with_reducible refine br_ndec (fun h => ?_) (fun h => ?_)) <;> try (exfalso; omega)) | (with_reducible refine br_not (fun h => ?_) (fun h => ?_)) | (with_reducible refine And.intro (fun h => ?_) (fun h => ?_))
      | fail)
  refine loop_promoteD (k := 5) (esz := 1) rfl (by decide) ?_
  refine loop_invS (fun i => i ≤ 2 * t.links.length) [1, 2, 5, 6] 2 (fun i => [(6, ai i)]) (fun i => [(1, .arr 0 1 none ((outL t n i).map eInt) false)]) (fun i => 2 * t.links.length - i) 0 (by decide) (by decide) ?_
  conv => whnf
  refine ⟨rfl, rfl, by omega, fun i hi => ?_⟩
  have hss := outL_succ t n i
  have hnl := outL_len t n i
  repeat' (first
      | ((with_reducible refine step ?_); conv => whnf) | ((with_reducible refine br_dec (fun h => ?_) (fun h => ?_)) <;> try (exfalso; omega)) | ((with_reducible refine br_ndec (fun h => ?_) (fun h => ?_)) <;> try (exfalso; omega)) | (with_reducible refine br_not (fun h => ?_) (fun h => ?_)) | (with_reducible refine And.intro (fun h => ?_) (fun h => ?_))
      | (refine call_pure (arcs9_c t) rfl rfl ?_; conv => whnf)
      | (refine call_pure (tail9_c t _) rfl rfl ?_; conv => whnf)
      | (refine And.intro ?_ ?_; (focus (simp [elemsOk, AV.oneC, big, eInt]; (try omega); done)); conv => whnf)
      | fail)
  all_goals first
    | (rw [if_pos (by assumption)] at hss
       exact ⟨i + 1, by omega, by omega, by rw [wrap_succ (by omega)]; rfl, by rw [hss, List.map_append]; rfl⟩)
    | (rw [if_neg (by assumption), List.append_nil] at hss
       exact ⟨i + 1, by omega, by omega, by rw [wrap_succ (by omega)]; rfl, by rw [hss]; rfl⟩)
    | (obtain rfl : i = 2 * t.links.length := by omega
       rfl)

def routesT (t : Topology) (n : Int) (kk : Nat → Nat) (i : Nat) : List Entry := (List.range i).map fun d : Nat => ⟨nextL t [] (rounds t [] d false (kk d)).1 n d (2 * t.links.length), false, []⟩
theorem routesT_succ (t : Topology) (n : Int) (kk : Nat → Nat) (i : Nat) : routesT t n kk (i + 1) = routesT t n kk i ++ [⟨nextL t [] (rounds t [] i false (kk i)).1 n i (2 * t.links.length), false, []⟩] := by
  unfold routesT; rw [List.range_succ, List.map_append]; rfl
theorem routesT_len (t : Topology) (n : Int) (kk : Nat → Nat) (i : Nat) : (routesT t n kk i).length = i := by simp [routesT]
theorem routes22_c (t : Topology) (n : Int) (kk : Nat → Nat) (hK : ∀ d : Nat, (d : Int) < t.nodes → DistOk t [] d (kk d)) (h0 : 0 ≤ n) (hn : n < t.nodes) (hv : t.valid = true) :
    PureCall Try.prog F.ref22_Routes [.agg t.enc, asl (([] : List Bool).map eBool), ai n] (.tuple [.agg (Table.enc ⟨n, routesT t n kk t.nodes.toNat, []⟩), ai 0]) := by
  refine contractS fits K.ref22_Routes ?_
  have hnn := valid_nodes hv
  have hll := valid_links hv
  have hf := fits11_c t []
  rw [show fits11 t [] = true by simp [fits11, hv]] at hf
  have hol := outL_len t n (2 * t.links.length)
  repeat' (first
      | contradiction
      | ((with_reducible refine step ?_); conv => whnf) | ((with_reducible refine br_dec (fun h => ?_) (fun h => ?_)) <;> try (exfalso; omega)) | ((with_reducible refine br_ndec (fun h => ?_) (fun h => ?_)) <;> try (exfalso; omega)) | (with_reducible refine br_not (fun h => ?_) (fun h => ?_)) | (with_reducible refine And.intro (fun h => ?_) (fun h => ?_))
      | (refine call_pure hf rfl rfl ?_; conv => whnf)
      | fail)
  refine loop_promoteBD (id := 2) (k := 1) (esz := 3) rfl rfl (by decide) ?_
  refine loop_invS (fun i => i ≤ t.nodes.toNat) [1, 2, 3, 6, 8, 9] 4 (fun i => [(9, ai i)]) (fun i => [(3, .arr 0 3 none ((routesT t n kk i).map Entry.enc) false)]) (fun i => t.nodes.toNat - i) 0 (by decide) (by decide) ?_
  conv => whnf
  refine ⟨rfl, rfl, by omega, fun i hi => ?_⟩
  have hss := routesT_succ t n kk i
  have hnl := routesT_len t n kk i
  have hup : ∀ a, PureCall Try.prog F.ref11_Up [asl (([] : List Bool).map eBool), ai a] (.bool true) := fun a => up_c [] a (.inl rfl)
  repeat' (first
      | contradiction
      | ((with_reducible refine step ?_); conv => whnf) | ((with_reducible refine br_dec (fun h => ?_) (fun h => ?_)) <;> try (exfalso; omega)) | ((with_reducible refine br_ndec (fun h => ?_) (fun h => ?_)) <;> try (exfalso; omega)) | (with_reducible refine br_not (fun h => ?_) (fun h => ?_)) | (with_reducible refine And.intro (fun h => ?_) (fun h => ?_))
      | (refine call_pure (next_c t [] n i (kk i) (hK i (by omega)) h0 hn) rfl rfl ?_; conv => whnf)
      | (refine call_pure (out9_c t n hv) rfl rfl ?_; conv => whnf)
      | (refine And.intro ?_ ?_; (focus (simp [elemsOk, AV.oneC, big, eInt]; (try omega); done)); conv => whnf)
      | fail)
  · exact ⟨i + 1, by omega, by omega, by rw [wrap_succ (by omega)]; rfl, by rw [hss, List.map_append]; rfl⟩
  obtain rfl : i = t.nodes.toNat := by omega
  refine loop_invS (fun j => j ≤ (outL t n (2 * t.links.length)).length) [1, 6, 8, 12, 13] 4 (fun j => [(13, ai j)]) (fun _ => []) (fun j => (outL t n (2 * t.links.length)).length - j) 0 (by decide) (by decide) ?_
  conv => whnf
  refine ⟨rfl, rfl, by omega, fun j hj => ?_⟩
  have hmm : ((outL t n (2 * t.links.length)).map eInt).length = (outL t n (2 * t.links.length)).length := List.length_map ..
  repeat' (first
      | contradiction
      | ((with_reducible refine step ?_); conv => whnf) | ((with_reducible refine br_dec (fun h => ?_) (fun h => ?_)) <;> try (exfalso; omega)) | ((with_reducible refine br_ndec (fun h => ?_) (fun h => ?_)) <;> try (exfalso; omega)) | (with_reducible refine br_not (fun h => ?_) (fun h => ?_)) | (with_reducible refine And.intro (fun h => ?_) (fun h => ?_))
      | (have hjl : j < (outL t n (2 * t.links.length)).length := (by omega); refine idx_nat hjl rfl ?_; conv => whnf)
      | (refine call_pure (hup _) rfl rfl ?_; conv => whnf)
      | fail)
  · exact ⟨j + 1, by omega, by omega, by rw [wrap_succ (by omega)]; rfl, rfl⟩
  · rfl
end Go.Proofs.Ytmapiefbnjaikaa.Vm
