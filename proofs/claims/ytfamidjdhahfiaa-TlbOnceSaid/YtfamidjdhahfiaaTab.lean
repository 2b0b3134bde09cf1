/- The tables of the program that the generator of verification conditions reads, held against it by the kernel. Conditions: none. -/
import Derived.Test.YtfamidjdhahfiaaVc
import Derived.Test.YtfamidjdhahfiaaChecked
namespace Go.Proofs.Ytfamidjdhahfiaa
open Vc
def tab : Tab where
  fo := [((55, 2), 2), ((55, 0), 0), ((55, 1), 1), ((49, 0), 0), ((49, 1), 1), ((49, 2), 2), ((49, 3), 3), ((49, 4), 4), ((70, 0), 0), ((87, 0), 0), ((89, 0), 0), ((35, 0), 0), ((35, 1), 1), ((35, 2), 2), ((35, 3), 3), ((35, 4), 4), ((55, 3), 7), ((55, 4), 8), ((55, 5), 9), ((98, 0), 0), ((98, 1), 40), ((98, 2), 41), ((67, 0), 0), ((67, 1), 1), ((67, 2), 2), ((67, 3), 3), ((70, 1), 1), ((70, 2), 2), ((70, 3), 3), ((70, 4), 7), ((52, 0), 0), ((52, 2), 41), ((52, 1), 40)]
  zero := [(52, List.replicate 42 (.int .i64 0)), (55, List.replicate 10 (.int .i64 0)), (49, [.int .i64 0, .int .i64 0, .int .i64 0, .int .i64 0, .int .i64 0]), (73, [.slice none 0 0, .slice none 0 0, .slice none 0 0]), (67, [.bool false, .bool false, .int .i64 0, .int .i64 0]), (87, [.slice none 0 0]), (89, [.slice none 0 0]), (92, List.replicate 64 (.int .u8 0)), (98, List.replicate 42 (.int .i64 0)), (50, List.replicate 40 (.int .i64 0)), (35, [.int .i64 0, .int .i64 0, .int .i64 0, .int .u32 0, .slice none 0 0]), (5, [.int .u8 0]), (70, [.int .i64 0, .int .i64 0, .int .i64 0, .bool false, .bool false, .int .i64 0, .int .i64 0, .int .u16 0])]
  ik := [(3, .i64), (26, .i64), (23, .u32), (5, .u8), (68, .u16)]
  sc := [3, 25, 29, 26, 22, 33, 23, 5, 4, 45, 44, 47, 53, 65, 72, 68, 85, 57]
  ag := [(35, 5), (52, 42), (55, 10), (49, 5), (67, 4), (70, 8), (73, 3), (87, 1), (89, 1), (92, 64), (98, 42), (50, 40)]
  el := [(22, 5), (33, 1), (44, 10), (53, 5), (65, 8), (72, 4), (85, 64)]
  ar := [(73, (3, 1)), (92, (64, 1)), (50, (8, 5))]
  fz := [((55, 2), 5), ((55, 0), 1), ((55, 1), 1), ((49, 0), 1), ((49, 1), 1), ((49, 2), 1), ((49, 3), 1), ((49, 4), 1), ((70, 0), 1), ((87, 0), 1), ((89, 0), 1), ((35, 0), 1), ((35, 1), 1), ((35, 2), 1), ((35, 3), 1), ((35, 4), 1), ((55, 3), 1), ((55, 4), 1), ((55, 5), 1), ((98, 0), 40), ((98, 1), 1), ((98, 2), 1), ((67, 0), 1), ((67, 1), 1), ((67, 2), 1), ((67, 3), 1), ((70, 1), 1), ((70, 2), 1), ((70, 3), 4), ((70, 4), 1), ((52, 0), 40), ((52, 2), 1), ((52, 1), 1)]
  fl := [(49, [some .i64, some .i64, some .i64, some .i64, some .i64]), (67, [none, none, some .i64, some .i64])]
  bd := [52, 49, 87, 89, 98, 67]
  calls := 75
theorem tab_z0 : zOk Try.prog (52, List.replicate 42 (.int .i64 0)) := by unfold zOk; kernel_rfl
theorem tab_z1 : zOk Try.prog (55, List.replicate 10 (.int .i64 0)) := by unfold zOk; kernel_rfl
theorem tab_z2 : zOk Try.prog (49, [.int .i64 0, .int .i64 0, .int .i64 0, .int .i64 0, .int .i64 0]) := by unfold zOk; kernel_rfl
theorem tab_z3 : zOk Try.prog (73, [.slice none 0 0, .slice none 0 0, .slice none 0 0]) := by unfold zOk; kernel_rfl
theorem tab_z4 : zOk Try.prog (67, [.bool false, .bool false, .int .i64 0, .int .i64 0]) := by unfold zOk; kernel_rfl
theorem tab_z5 : zOk Try.prog (87, [.slice none 0 0]) := by unfold zOk; kernel_rfl
theorem tab_z6 : zOk Try.prog (89, [.slice none 0 0]) := by unfold zOk; kernel_rfl
theorem tab_z7 : zOk Try.prog (92, List.replicate 64 (.int .u8 0)) := by unfold zOk; kernel_rfl
theorem tab_z8 : zOk Try.prog (98, List.replicate 42 (.int .i64 0)) := by unfold zOk; kernel_rfl
theorem tab_z9 : zOk Try.prog (50, List.replicate 40 (.int .i64 0)) := by unfold zOk; kernel_rfl
theorem tab_z10 : zOk Try.prog (35, [.int .i64 0, .int .i64 0, .int .i64 0, .int .u32 0, .slice none 0 0]) := by unfold zOk; kernel_rfl
theorem tab_z11 : zOk Try.prog (5, [.int .u8 0]) := by unfold zOk; kernel_rfl
theorem tab_z12 : zOk Try.prog (70, [.int .i64 0, .int .i64 0, .int .i64 0, .bool false, .bool false, .int .i64 0, .int .i64 0, .int .u16 0]) := by unfold zOk; kernel_rfl
theorem tabOk : TabOk Try.prog tab where
  fo := by as_aux_lemma => kernel_rfl
  ik := by as_aux_lemma => kernel_rfl
  sc := by as_aux_lemma => kernel_rfl
  ag := by as_aux_lemma => kernel_rfl
  el := by as_aux_lemma => kernel_rfl
  ar := by as_aux_lemma => kernel_rfl
  fz := by as_aux_lemma => kernel_rfl
  fl := by as_aux_lemma => kernel_rfl
  bd := by as_aux_lemma => kernel_rfl
  zero := ⟨tab_z0, tab_z1, tab_z2, tab_z3, tab_z4, tab_z5, tab_z6, tab_z7, tab_z8, tab_z9, tab_z10, tab_z11, tab_z12, trivial⟩
  calls := by as_aux_lemma => kernel_rfl
  mixed := by as_aux_lemma => kernel_rfl
end Go.Proofs.Ytfamidjdhahfiaa
