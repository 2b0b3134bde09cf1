/- The tables of the program that the generator of verification conditions reads, held against it by the kernel. Conditions: none. -/
import Derived.Test.YtggbhokhibfdmaaVc
import Derived.Test.YtggbhokhibfdmaaChecked
namespace Go.Proofs.Ytggbhokhibfdmaa
open Vc
def tab : Tab where
  fo := [((29, 0), 0), ((29, 1), 1), ((29, 2), 2), ((29, 3), 3), ((37, 1), 1), ((37, 0), 0), ((51, 0), 0), ((51, 3), 3), ((51, 1), 1), ((56, 0), 0), ((92, 1), 1), ((92, 2), 3), ((67, 0), 0), ((49, 0), 0), ((49, 1), 1), ((49, 2), 2), ((37, 2), 2), ((37, 3), 3), ((120, 2), 2), ((120, 3), 3), ((51, 2), 2), ((51, 4), 4), ((51, 5), 5), ((120, 0), 0), ((127, 0), 0), ((56, 1), 1), ((56, 2), 2), ((56, 4), 4), ((47, 3), 3), ((47, 2), 2), ((133, 0), 0), ((108, 2), 56), ((108, 3), 57), ((138, 0), 0), ((140, 0), 0), ((140, 1), 2), ((92, 0), 0), ((89, 1), 1), ((47, 0), 0), ((47, 1), 1), ((154, 0), 0), ((120, 1), 1), ((151, 0), 0), ((151, 1), 1), ((151, 3), 3), ((151, 2), 2), ((108, 0), 0), ((108, 1), 16), ((105, 0), 0), ((105, 1), 1), ((105, 2), 2), ((67, 1), 1), ((89, 0), 0), ((167, 0), 0), ((167, 1), 2), ((167, 2), 3), ((167, 3), 4), ((105, 4), 4), ((105, 3), 3)]
  zero := [(29, [.int .i64 0, .int .i64 0, .int .i64 0, .bool false]), (56, [.int .i64 0, .int .i64 0, .int .i64 0, .bool false, .int .i64 0]), (60, List.replicate 16 (.slice none 0 0)), (67, [.int .i64 0, .int .i64 0]), (89, [.slice none 0 0, .slice none 0 0]), (47, [.bool false, .bool false, .int .i64 0, .int .i64 0]), (49, [.int .i64 0, .int .i64 0, .bool false, .bool false, .int .i64 0, .int .i64 0]), (108, [.int .i64 0, .int .i64 0, .int .i64 0, .int .i64 0, .int .i64 0, .int .i64 0, .int .i64 0, .int .i64 0, .int .i64 0, .int .i64 0, .int .i64 0, .int .i64 0, .int .i64 0, .int .i64 0, .int .i64 0, .int .i64 0, .bool false, .int .i64 0, .int .i64 0, .int .i64 0, .int .i64 0, .bool false, .int .i64 0, .int .i64 0, .int .i64 0, .int .i64 0, .bool false, .int .i64 0, .int .i64 0, .int .i64 0, .int .i64 0, .bool false, .int .i64 0, .int .i64 0, .int .i64 0, .int .i64 0, .bool false, .int .i64 0, .int .i64 0, .int .i64 0, .int .i64 0, .bool false, .int .i64 0, .int .i64 0, .int .i64 0, .int .i64 0, .bool false, .int .i64 0, .int .i64 0, .int .i64 0, .int .i64 0, .bool false, .int .i64 0, .int .i64 0, .int .i64 0, .int .i64 0, .slice none 0 0, .int .i64 0]), (37, [.pointer none, .pointer none, .pointer none, .pointer none]), (127, [.pointer none]), (130, List.replicate 64 (.int .u8 0)), (140, [.int .i64 0, .int .i64 0, .int .i64 0]), (22, [.slice none 0 0]), (4, [.bool false]), (70, [.slice none 0 0]), (138, [.slice none 0 0]), (133, [.slice none 0 0]), (154, [.slice none 0 0]), (120, [.map none, .map none, .slice none 0 0, .int .i64 0]), (151, [.int .i64 0, .int .i64 0, .int .i64 0, .int .i64 0]), (105, [.bool false, .int .i64 0, .int .i64 0, .int .i64 0, .int .i64 0]), (167, [.int .i64 0, .int .i64 0, .int .i64 0, .slice none 0 0, .bool false]), (3, [.int .i64 0]), (51, [.int .i64 0, .int .i64 0, .int .i64 0, .bool false, .int .u8 0, .int .i64 0, .int .i64 0, .bool false, .bool false, .int .i64 0, .int .i64 0]), (5, [.int .u8 0]), (92, [.int .i64 0, .int .i64 0, .int .i64 0, .int .i64 0, .int .i64 0])]
  ik := [(3, .i64), (5, .u8), (30, .i64), (110, .u32), (171, .u16)]
  sc := [44, 25, 22, 3, 33, 32, 4, 5, 30, 27, 23, 45, 59, 65, 68, 70, 86, 110, 34, 35, 117, 131, 136, 152, 118, 162, 87, 171]
  ag := [(29, 4), (51, 11), (56, 5), (60, 16), (67, 2), (89, 2), (92, 5), (47, 4), (49, 6), (108, 58), (37, 4), (127, 1), (130, 64), (140, 3), (138, 1), (133, 1), (154, 1), (120, 4), (151, 4), (103, 16), (106, 40), (105, 5), (167, 5)]
  el := [(44, 6), (22, 1), (27, 4), (23, 1), (45, 11), (59, 1), (65, 5), (70, 2), (131, 64), (136, 3), (87, 5)]
  ar := [(60, (16, 1)), (130, (64, 1)), (103, (16, 1)), (106, (8, 5))]
  fz := [((29, 0), 1), ((29, 1), 1), ((29, 2), 1), ((29, 3), 1), ((37, 1), 1), ((37, 0), 1), ((51, 0), 1), ((51, 3), 1), ((51, 1), 1), ((56, 0), 1), ((92, 1), 2), ((92, 2), 2), ((67, 0), 1), ((49, 0), 1), ((49, 1), 1), ((49, 2), 4), ((37, 2), 1), ((37, 3), 1), ((120, 2), 1), ((120, 3), 1), ((51, 2), 1), ((51, 4), 1), ((51, 5), 6), ((120, 0), 1), ((127, 0), 1), ((56, 1), 1), ((56, 2), 1), ((56, 4), 1), ((47, 3), 1), ((47, 2), 1), ((133, 0), 1), ((108, 2), 1), ((108, 3), 1), ((138, 0), 1), ((140, 0), 2), ((140, 1), 1), ((92, 0), 1), ((89, 1), 1), ((47, 0), 1), ((47, 1), 1), ((154, 0), 1), ((120, 1), 1), ((151, 0), 1), ((151, 1), 1), ((151, 3), 1), ((151, 2), 1), ((108, 0), 16), ((108, 1), 40), ((105, 0), 1), ((105, 1), 1), ((105, 2), 1), ((67, 1), 1), ((89, 0), 1), ((167, 0), 2), ((167, 1), 1), ((167, 2), 1), ((167, 3), 1), ((105, 4), 1), ((105, 3), 1)]
  fl := [(29, [some .i64, some .i64, some .i64, none]), (56, [some .i64, some .i64, some .i64, none, some .i64]), (67, [some .i64, some .i64]), (47, [none, none, some .i64, some .i64]), (151, [some .i64, some .i64, some .i64, some .i64]), (105, [none, some .i64, some .i64, some .i64, some .i64])]
  bd := [29, 89, 67, 47, 49, 108, 37, 56, 127, 140, 138, 133, 154, 120, 151, 105, 167]
  mp := [(117, (3, 3)), (118, (3, 151))]
  zv := [(3, .int .i64 0), (151, .agg #[.int .i64 0, .int .i64 0, .int .i64 0, .int .i64 0])]
  nc := [103]
  calls := 124
theorem tab_z0 : zOk Try.prog (29, [.int .i64 0, .int .i64 0, .int .i64 0, .bool false]) := by unfold zOk; kernel_rfl
theorem tab_z1 : zOk Try.prog (56, [.int .i64 0, .int .i64 0, .int .i64 0, .bool false, .int .i64 0]) := by unfold zOk; kernel_rfl
theorem tab_z2 : zOk Try.prog (60, List.replicate 16 (.slice none 0 0)) := by unfold zOk; kernel_rfl
theorem tab_z3 : zOk Try.prog (67, [.int .i64 0, .int .i64 0]) := by unfold zOk; kernel_rfl
theorem tab_z4 : zOk Try.prog (89, [.slice none 0 0, .slice none 0 0]) := by unfold zOk; kernel_rfl
theorem tab_z5 : zOk Try.prog (47, [.bool false, .bool false, .int .i64 0, .int .i64 0]) := by unfold zOk; kernel_rfl
theorem tab_z6 : zOk Try.prog (49, [.int .i64 0, .int .i64 0, .bool false, .bool false, .int .i64 0, .int .i64 0]) := by unfold zOk; kernel_rfl
theorem tab_z7 : zOk Try.prog (108, [.int .i64 0, .int .i64 0, .int .i64 0, .int .i64 0, .int .i64 0, .int .i64 0, .int .i64 0, .int .i64 0, .int .i64 0, .int .i64 0, .int .i64 0, .int .i64 0, .int .i64 0, .int .i64 0, .int .i64 0, .int .i64 0, .bool false, .int .i64 0, .int .i64 0, .int .i64 0, .int .i64 0, .bool false, .int .i64 0, .int .i64 0, .int .i64 0, .int .i64 0, .bool false, .int .i64 0, .int .i64 0, .int .i64 0, .int .i64 0, .bool false, .int .i64 0, .int .i64 0, .int .i64 0, .int .i64 0, .bool false, .int .i64 0, .int .i64 0, .int .i64 0, .int .i64 0, .bool false, .int .i64 0, .int .i64 0, .int .i64 0, .int .i64 0, .bool false, .int .i64 0, .int .i64 0, .int .i64 0, .int .i64 0, .bool false, .int .i64 0, .int .i64 0, .int .i64 0, .int .i64 0, .slice none 0 0, .int .i64 0]) := by unfold zOk; kernel_rfl
theorem tab_z8 : zOk Try.prog (37, [.pointer none, .pointer none, .pointer none, .pointer none]) := by unfold zOk; kernel_rfl
theorem tab_z9 : zOk Try.prog (127, [.pointer none]) := by unfold zOk; kernel_rfl
theorem tab_z10 : zOk Try.prog (130, List.replicate 64 (.int .u8 0)) := by unfold zOk; kernel_rfl
theorem tab_z11 : zOk Try.prog (140, [.int .i64 0, .int .i64 0, .int .i64 0]) := by unfold zOk; kernel_rfl
theorem tab_z12 : zOk Try.prog (22, [.slice none 0 0]) := by unfold zOk; kernel_rfl
theorem tab_z13 : zOk Try.prog (4, [.bool false]) := by unfold zOk; kernel_rfl
theorem tab_z14 : zOk Try.prog (70, [.slice none 0 0]) := by unfold zOk; kernel_rfl
theorem tab_z15 : zOk Try.prog (138, [.slice none 0 0]) := by unfold zOk; kernel_rfl
theorem tab_z16 : zOk Try.prog (133, [.slice none 0 0]) := by unfold zOk; kernel_rfl
theorem tab_z17 : zOk Try.prog (154, [.slice none 0 0]) := by unfold zOk; kernel_rfl
theorem tab_z18 : zOk Try.prog (120, [.map none, .map none, .slice none 0 0, .int .i64 0]) := by unfold zOk; kernel_rfl
theorem tab_z19 : zOk Try.prog (151, [.int .i64 0, .int .i64 0, .int .i64 0, .int .i64 0]) := by unfold zOk; kernel_rfl
theorem tab_z20 : zOk Try.prog (105, [.bool false, .int .i64 0, .int .i64 0, .int .i64 0, .int .i64 0]) := by unfold zOk; kernel_rfl
theorem tab_z21 : zOk Try.prog (167, [.int .i64 0, .int .i64 0, .int .i64 0, .slice none 0 0, .bool false]) := by unfold zOk; kernel_rfl
theorem tab_z22 : zOk Try.prog (3, [.int .i64 0]) := by unfold zOk; kernel_rfl
theorem tab_z23 : zOk Try.prog (51, [.int .i64 0, .int .i64 0, .int .i64 0, .bool false, .int .u8 0, .int .i64 0, .int .i64 0, .bool false, .bool false, .int .i64 0, .int .i64 0]) := by unfold zOk; kernel_rfl
theorem tab_z24 : zOk Try.prog (5, [.int .u8 0]) := by unfold zOk; kernel_rfl
theorem tab_z25 : zOk Try.prog (92, [.int .i64 0, .int .i64 0, .int .i64 0, .int .i64 0, .int .i64 0]) := by unfold zOk; kernel_rfl
theorem tab_v0 : zvOk Try.prog (3, .int .i64 0) := by unfold zvOk; kernel_rfl
theorem tab_v1 : zvOk Try.prog (151, .agg #[.int .i64 0, .int .i64 0, .int .i64 0, .int .i64 0]) := by unfold zvOk; kernel_rfl
theorem tabOk : TabOk Try.prog tab where
  fo := by as_aux_lemma => kernel_rfl
  ik := by as_aux_lemma => kernel_rfl
  sc := by as_aux_lemma => kernel_rfl
  ag := by as_aux_lemma => kernel_rfl
  el := by as_aux_lemma => kernel_rfl
  ar := by as_aux_lemma => kernel_rfl
  fz := by as_aux_lemma => kernel_rfl
  fl := by as_aux_lemma => kernel_rfl
  bd := by as_aux_lemma => kernel_rfl
  mp := by as_aux_lemma => kernel_rfl
  zero := ⟨tab_z0, tab_z1, tab_z2, tab_z3, tab_z4, tab_z5, tab_z6, tab_z7, tab_z8, tab_z9, tab_z10, tab_z11, tab_z12, tab_z13, tab_z14, tab_z15, tab_z16, tab_z17, tab_z18, tab_z19, tab_z20, tab_z21, tab_z22, tab_z23, tab_z24, tab_z25, trivial⟩
  zv := ⟨tab_v0, tab_v1, trivial⟩
  calls := by as_aux_lemma => kernel_rfl
  mixed := by as_aux_lemma => kernel_rfl
end Go.Proofs.Ytggbhokhibfdmaa
