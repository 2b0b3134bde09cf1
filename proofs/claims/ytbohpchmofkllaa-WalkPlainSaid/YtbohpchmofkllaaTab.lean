/- The tables of the program that the generator of verification conditions reads, held against it by the kernel. Conditions: none. -/
import Derived.Test.YtbohpchmofkllaaVc
import Derived.Test.YtbohpchmofkllaaChecked
namespace Go.Proofs.Ytbohpchmofkllaa
open Vc
def tab : Tab where
  fo := [((31, 0), 0), ((24, 3), 3), ((40, 0), 0), ((40, 1), 1), ((37, 0), 0), ((37, 3), 3), ((40, 2), 2), ((37, 1), 1), ((37, 2), 2), ((24, 2), 2), ((31, 4), 4), ((63, 4), 7), ((24, 0), 0), ((63, 1), 4), ((63, 2), 5), ((63, 3), 6), ((63, 5), 8), ((63, 0), 0), ((73, 0), 0), ((31, 1), 1), ((31, 2), 2), ((31, 3), 3), ((40, 3), 6), ((40, 4), 7), ((89, 0), 0), ((107, 0), 0), ((109, 0), 0), ((111, 0), 0), ((24, 1), 1), ((70, 0), 0), ((70, 1), 1), ((70, 2), 2), ((70, 3), 3), ((70, 4), 4), ((111, 1), 40), ((111, 2), 41), ((73, 2), 41), ((73, 1), 40)]
  zero := [(31, [.int .i64 0, .int .i64 0, .int .i64 0, .bool false, .int .i64 0]), (37, [.bool false, .bool false, .int .i64 0, .int .i64 0]), (40, [.int .i64 0, .int .i64 0, .bool false, .bool false, .int .i64 0, .int .i64 0, .bool false, .int .u16 0]), (24, [.int .i64 0, .int .i64 0, .int .i64 0, .int .i64 0]), (63, [.int .i64 0, .int .i64 0, .int .i64 0, .int .i64 0, .int .i64 0, .int .i64 0, .int .i64 0, .int .i64 0, .slice none 0 0]), (73, List.replicate 42 (.int .i64 0)), (89, [.pointer none]), (104, List.replicate 64 (.int .u8 0)), (111, List.replicate 42 (.int .i64 0)), (70, [.int .i64 0, .int .i64 0, .int .i64 0, .int .i64 0, .int .i64 0]), (71, List.replicate 40 (.int .i64 0)), (107, [.slice none 0 0]), (109, [.slice none 0 0]), (5, [.int .u8 0])]
  ik := [(3, .i64), (42, .i64), (47, .u32), (38, .u16), (5, .u8)]
  sc := [22, 26, 3, 42, 4, 27, 47, 54, 60, 59, 58, 68, 76, 38, 5, 105, 121]
  ag := [(24, 4), (31, 5), (40, 8), (37, 4), (63, 9), (73, 42), (70, 5), (71, 40), (89, 1), (104, 64), (111, 42), (107, 1), (109, 1)]
  el := [(22, 8), (54, 1), (59, 9), (58, 4), (76, 5), (105, 64)]
  ar := [(71, (8, 5)), (104, (64, 1))]
  fz := [((31, 0), 1), ((24, 3), 1), ((40, 0), 1), ((40, 1), 1), ((37, 0), 1), ((37, 3), 1), ((40, 2), 4), ((37, 1), 1), ((37, 2), 1), ((24, 2), 1), ((31, 4), 1), ((63, 4), 1), ((24, 0), 1), ((63, 1), 1), ((63, 2), 1), ((63, 3), 1), ((63, 5), 1), ((63, 0), 4), ((73, 0), 40), ((31, 1), 1), ((31, 2), 1), ((31, 3), 1), ((40, 3), 1), ((40, 4), 1), ((89, 0), 1), ((107, 0), 1), ((109, 0), 1), ((111, 0), 40), ((24, 1), 1), ((70, 0), 1), ((70, 1), 1), ((70, 2), 1), ((70, 3), 1), ((70, 4), 1), ((111, 1), 1), ((111, 2), 1), ((73, 2), 1), ((73, 1), 1)]
  fl := [(24, [some .i64, some .i64, some .i64, some .i64]), (31, [some .i64, some .i64, some .i64, none, some .i64]), (37, [none, none, some .i64, some .i64]), (70, [some .i64, some .i64, some .i64, some .i64, some .i64])]
  bd := [37, 40, 24, 73, 31, 89, 111, 70, 107, 109]
  calls := 71
theorem tab_z0 : zOk Try.prog (31, [.int .i64 0, .int .i64 0, .int .i64 0, .bool false, .int .i64 0]) := by unfold zOk; kernel_rfl
theorem tab_z1 : zOk Try.prog (37, [.bool false, .bool false, .int .i64 0, .int .i64 0]) := by unfold zOk; kernel_rfl
theorem tab_z2 : zOk Try.prog (40, [.int .i64 0, .int .i64 0, .bool false, .bool false, .int .i64 0, .int .i64 0, .bool false, .int .u16 0]) := by unfold zOk; kernel_rfl
theorem tab_z3 : zOk Try.prog (24, [.int .i64 0, .int .i64 0, .int .i64 0, .int .i64 0]) := by unfold zOk; kernel_rfl
theorem tab_z4 : zOk Try.prog (63, [.int .i64 0, .int .i64 0, .int .i64 0, .int .i64 0, .int .i64 0, .int .i64 0, .int .i64 0, .int .i64 0, .slice none 0 0]) := by unfold zOk; kernel_rfl
theorem tab_z5 : zOk Try.prog (73, List.replicate 42 (.int .i64 0)) := by unfold zOk; kernel_rfl
theorem tab_z6 : zOk Try.prog (89, [.pointer none]) := by unfold zOk; kernel_rfl
theorem tab_z7 : zOk Try.prog (104, List.replicate 64 (.int .u8 0)) := by unfold zOk; kernel_rfl
theorem tab_z8 : zOk Try.prog (111, List.replicate 42 (.int .i64 0)) := by unfold zOk; kernel_rfl
theorem tab_z9 : zOk Try.prog (70, [.int .i64 0, .int .i64 0, .int .i64 0, .int .i64 0, .int .i64 0]) := by unfold zOk; kernel_rfl
theorem tab_z10 : zOk Try.prog (71, List.replicate 40 (.int .i64 0)) := by unfold zOk; kernel_rfl
theorem tab_z11 : zOk Try.prog (107, [.slice none 0 0]) := by unfold zOk; kernel_rfl
theorem tab_z12 : zOk Try.prog (109, [.slice none 0 0]) := by unfold zOk; kernel_rfl
theorem tab_z13 : zOk Try.prog (5, [.int .u8 0]) := by unfold zOk; kernel_rfl
theorem tabOk : TabOk Try.prog tab where
  fo := by as_aux_lemma => kernel_rfl
  ik := by as_aux_lemma => kernel_rfl
  sc := by as_aux_lemma => kernel_rfl
  ag := by as_aux_lemma => kernel_rfl
  el := by as_aux_lemma => kernel_rfl
  ar := by as_aux_lemma => kernel_rfl
  fz := by as_aux_lemma => kernel_rfl
  fl := by as_aux_lemma => kernel_rfl
  bd := by as_aux_lemma => kernel_rfl
  zero := ⟨tab_z0, tab_z1, tab_z2, tab_z3, tab_z4, tab_z5, tab_z6, tab_z7, tab_z8, tab_z9, tab_z10, tab_z11, tab_z12, tab_z13, trivial⟩
  calls := by as_aux_lemma => kernel_rfl
  mixed := by as_aux_lemma => kernel_rfl
end Go.Proofs.Ytbohpchmofkllaa
