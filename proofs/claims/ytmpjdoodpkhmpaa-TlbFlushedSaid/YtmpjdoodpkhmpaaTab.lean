/- The tables of the program that the generator of verification conditions reads, held against it by the kernel. Conditions: none. -/
import Derived.Test.YtmpjdoodpkhmpaaVc
import Derived.Test.YtmpjdoodpkhmpaaChecked
namespace Go.Proofs.Ytmpjdoodpkhmpaa
open Vc
def tab : Tab where
  fo := [((23, 0), 0), ((23, 1), 1), ((23, 2), 2), ((23, 3), 3), ((23, 4), 4), ((68, 2), 2), ((68, 0), 0), ((68, 1), 1), ((95, 0), 0), ((111, 0), 0), ((107, 3), 3), ((117, 0), 0), ((117, 1), 1), ((34, 0), 0), ((34, 3), 3), ((117, 2), 2), ((34, 1), 1), ((34, 2), 2), ((107, 2), 2), ((111, 4), 4), ((128, 4), 7), ((107, 0), 0), ((128, 1), 4), ((128, 2), 5), ((128, 3), 6), ((137, 0), 0), ((137, 1), 1), ((137, 2), 2), ((137, 3), 3), ((142, 1), 1), ((142, 0), 0), ((128, 5), 8), ((128, 0), 0), ((65, 0), 0), ((156, 0), 0), ((156, 3), 3), ((156, 1), 1), ((163, 0), 0), ((163, 1), 40), ((163, 2), 41), ((168, 0), 0), ((68, 3), 7), ((68, 4), 8), ((68, 5), 9), ((174, 0), 0), ((78, 0), 0), ((78, 1), 1), ((78, 2), 2), ((78, 3), 3), ((78, 4), 4), ((65, 1), 40), ((65, 2), 41), ((95, 1), 1), ((95, 2), 2), ((95, 3), 3), ((95, 4), 7), ((111, 1), 1), ((111, 2), 2), ((111, 3), 3), ((117, 3), 6), ((117, 4), 7), ((184, 0), 0), ((107, 1), 1), ((154, 0), 0), ((154, 1), 1), ((154, 2), 2), ((142, 2), 2), ((142, 3), 3), ((206, 2), 2), ((206, 3), 3), ((156, 2), 2), ((156, 4), 4), ((156, 5), 5), ((206, 0), 0), ((200, 2), 56), ((200, 3), 57), ((206, 1), 1), ((214, 0), 0), ((214, 1), 1), ((214, 3), 3), ((214, 2), 2), ((200, 0), 0), ((200, 1), 16), ((197, 0), 0), ((197, 1), 1), ((197, 2), 2), ((197, 4), 4), ((197, 3), 3)]
  zero := [(34, [.bool false, .bool false, .int .i64 0, .int .i64 0]), (65, List.replicate 42 (.int .i64 0)), (68, List.replicate 10 (.int .i64 0)), (23, [.int .i64 0, .int .i64 0, .int .i64 0, .int .i64 0, .int .i64 0]), (98, [.slice none 0 0, .slice none 0 0, .slice none 0 0]), (111, [.int .i64 0, .int .i64 0, .int .i64 0, .bool false, .int .i64 0]), (117, [.int .i64 0, .int .i64 0, .bool false, .bool false, .int .i64 0, .int .i64 0, .bool false, .int .u16 0]), (107, [.int .i64 0, .int .i64 0, .int .i64 0, .int .i64 0]), (128, [.int .i64 0, .int .i64 0, .int .i64 0, .int .i64 0, .int .i64 0, .int .i64 0, .int .i64 0, .int .i64 0, .slice none 0 0]), (137, [.int .i64 0, .int .i64 0, .int .i64 0, .bool false]), (159, List.replicate 16 (.slice none 0 0)), (163, List.replicate 42 (.int .i64 0)), (168, [.slice none 0 0]), (171, List.replicate 64 (.int .u8 0)), (174, [.slice none 0 0]), (63, List.replicate 40 (.int .i64 0)), (184, [.pointer none]), (154, [.int .i64 0, .int .i64 0, .bool false, .bool false, .int .i64 0, .int .i64 0]), (200, [.int .i64 0, .int .i64 0, .int .i64 0, .int .i64 0, .int .i64 0, .int .i64 0, .int .i64 0, .int .i64 0, .int .i64 0, .int .i64 0, .int .i64 0, .int .i64 0, .int .i64 0, .int .i64 0, .int .i64 0, .int .i64 0, .bool false, .int .i64 0, .int .i64 0, .int .i64 0, .int .i64 0, .bool false, .int .i64 0, .int .i64 0, .int .i64 0, .int .i64 0, .bool false, .int .i64 0, .int .i64 0, .int .i64 0, .int .i64 0, .bool false, .int .i64 0, .int .i64 0, .int .i64 0, .int .i64 0, .bool false, .int .i64 0, .int .i64 0, .int .i64 0, .int .i64 0, .bool false, .int .i64 0, .int .i64 0, .int .i64 0, .int .i64 0, .bool false, .int .i64 0, .int .i64 0, .int .i64 0, .int .i64 0, .bool false, .int .i64 0, .int .i64 0, .int .i64 0, .int .i64 0, .slice none 0 0, .int .i64 0]), (142, [.pointer none, .pointer none, .pointer none, .pointer none]), (206, [.map none, .map none, .slice none 0 0, .int .i64 0]), (214, [.int .i64 0, .int .i64 0, .int .i64 0, .int .i64 0]), (197, [.bool false, .int .i64 0, .int .i64 0, .int .i64 0, .int .i64 0]), (5, [.int .u8 0]), (3, [.int .i64 0]), (78, [.int .i64 0, .int .i64 0, .int .i64 0, .int .u32 0, .slice none 0 0]), (95, [.int .i64 0, .int .i64 0, .int .i64 0, .bool false, .bool false, .int .i64 0, .int .i64 0, .int .u16 0]), (4, [.bool false]), (156, [.int .i64 0, .int .i64 0, .int .i64 0, .bool false, .int .u8 0, .int .i64 0, .int .i64 0, .bool false, .bool false, .int .i64 0, .int .i64 0])]
  ik := [(3, .i64), (28, .i64), (35, .u16), (46, .u32), (5, .u8)]
  sc := [25, 3, 4, 28, 35, 47, 46, 55, 60, 62, 61, 73, 72, 5, 85, 93, 97, 105, 126, 125, 151, 133, 139, 135, 132, 152, 27, 166, 140, 203, 215, 204]
  ag := [(23, 5), (34, 4), (65, 42), (68, 10), (78, 5), (95, 8), (98, 3), (107, 4), (111, 5), (117, 8), (128, 9), (137, 4), (63, 40), (156, 11), (159, 16), (163, 42), (168, 1), (171, 64), (174, 1), (184, 1), (154, 6), (200, 58), (142, 4), (206, 4), (214, 4), (195, 16), (198, 40), (197, 5)]
  el := [(55, 1), (60, 10), (61, 1), (72, 5), (85, 5), (93, 8), (97, 4), (105, 8), (126, 9), (125, 4), (151, 6), (135, 4), (132, 1), (152, 11), (166, 64)]
  ar := [(98, (3, 1)), (63, (8, 5)), (159, (16, 1)), (171, (64, 1)), (195, (16, 1)), (198, (8, 5))]
  fz := [((23, 0), 1), ((23, 1), 1), ((23, 2), 1), ((23, 3), 1), ((23, 4), 1), ((68, 2), 5), ((68, 0), 1), ((68, 1), 1), ((95, 0), 1), ((111, 0), 1), ((107, 3), 1), ((117, 0), 1), ((117, 1), 1), ((34, 0), 1), ((34, 3), 1), ((117, 2), 4), ((34, 1), 1), ((34, 2), 1), ((107, 2), 1), ((111, 4), 1), ((128, 4), 1), ((107, 0), 1), ((128, 1), 1), ((128, 2), 1), ((128, 3), 1), ((137, 0), 1), ((137, 1), 1), ((137, 2), 1), ((137, 3), 1), ((142, 1), 1), ((142, 0), 1), ((128, 5), 1), ((128, 0), 4), ((65, 0), 40), ((156, 0), 1), ((156, 3), 1), ((156, 1), 1), ((163, 0), 40), ((163, 1), 1), ((163, 2), 1), ((168, 0), 1), ((68, 3), 1), ((68, 4), 1), ((68, 5), 1), ((174, 0), 1), ((78, 0), 1), ((78, 1), 1), ((78, 2), 1), ((78, 3), 1), ((78, 4), 1), ((65, 1), 1), ((65, 2), 1), ((95, 1), 1), ((95, 2), 1), ((95, 3), 4), ((95, 4), 1), ((111, 1), 1), ((111, 2), 1), ((111, 3), 1), ((117, 3), 1), ((117, 4), 1), ((184, 0), 1), ((107, 1), 1), ((154, 0), 1), ((154, 1), 1), ((154, 2), 4), ((142, 2), 1), ((142, 3), 1), ((206, 2), 1), ((206, 3), 1), ((156, 2), 1), ((156, 4), 1), ((156, 5), 6), ((206, 0), 1), ((200, 2), 1), ((200, 3), 1), ((206, 1), 1), ((214, 0), 1), ((214, 1), 1), ((214, 3), 1), ((214, 2), 1), ((200, 0), 16), ((200, 1), 40), ((197, 0), 1), ((197, 1), 1), ((197, 2), 1), ((197, 4), 1), ((197, 3), 1)]
  fl := [(23, [some .i64, some .i64, some .i64, some .i64, some .i64]), (34, [none, none, some .i64, some .i64]), (107, [some .i64, some .i64, some .i64, some .i64]), (111, [some .i64, some .i64, some .i64, none, some .i64]), (137, [some .i64, some .i64, some .i64, none]), (214, [some .i64, some .i64, some .i64, some .i64]), (197, [none, some .i64, some .i64, some .i64, some .i64])]
  bd := [34, 65, 23, 117, 107, 137, 163, 168, 174, 111, 184, 154, 200, 142, 206, 214, 197]
  calls := 150
theorem tab_z0 : zOk Try.prog (34, [.bool false, .bool false, .int .i64 0, .int .i64 0]) := by unfold zOk; kernel_rfl
theorem tab_z1 : zOk Try.prog (65, List.replicate 42 (.int .i64 0)) := by unfold zOk; kernel_rfl
theorem tab_z2 : zOk Try.prog (68, List.replicate 10 (.int .i64 0)) := by unfold zOk; kernel_rfl
theorem tab_z3 : zOk Try.prog (23, [.int .i64 0, .int .i64 0, .int .i64 0, .int .i64 0, .int .i64 0]) := by unfold zOk; kernel_rfl
theorem tab_z4 : zOk Try.prog (98, [.slice none 0 0, .slice none 0 0, .slice none 0 0]) := by unfold zOk; kernel_rfl
theorem tab_z5 : zOk Try.prog (111, [.int .i64 0, .int .i64 0, .int .i64 0, .bool false, .int .i64 0]) := by unfold zOk; kernel_rfl
theorem tab_z6 : zOk Try.prog (117, [.int .i64 0, .int .i64 0, .bool false, .bool false, .int .i64 0, .int .i64 0, .bool false, .int .u16 0]) := by unfold zOk; kernel_rfl
theorem tab_z7 : zOk Try.prog (107, [.int .i64 0, .int .i64 0, .int .i64 0, .int .i64 0]) := by unfold zOk; kernel_rfl
theorem tab_z8 : zOk Try.prog (128, [.int .i64 0, .int .i64 0, .int .i64 0, .int .i64 0, .int .i64 0, .int .i64 0, .int .i64 0, .int .i64 0, .slice none 0 0]) := by unfold zOk; kernel_rfl
theorem tab_z9 : zOk Try.prog (137, [.int .i64 0, .int .i64 0, .int .i64 0, .bool false]) := by unfold zOk; kernel_rfl
theorem tab_z10 : zOk Try.prog (159, List.replicate 16 (.slice none 0 0)) := by unfold zOk; kernel_rfl
theorem tab_z11 : zOk Try.prog (163, List.replicate 42 (.int .i64 0)) := by unfold zOk; kernel_rfl
theorem tab_z12 : zOk Try.prog (168, [.slice none 0 0]) := by unfold zOk; kernel_rfl
theorem tab_z13 : zOk Try.prog (171, List.replicate 64 (.int .u8 0)) := by unfold zOk; kernel_rfl
theorem tab_z14 : zOk Try.prog (174, [.slice none 0 0]) := by unfold zOk; kernel_rfl
theorem tab_z15 : zOk Try.prog (63, List.replicate 40 (.int .i64 0)) := by unfold zOk; kernel_rfl
theorem tab_z16 : zOk Try.prog (184, [.pointer none]) := by unfold zOk; kernel_rfl
theorem tab_z17 : zOk Try.prog (154, [.int .i64 0, .int .i64 0, .bool false, .bool false, .int .i64 0, .int .i64 0]) := by unfold zOk; kernel_rfl
theorem tab_z18 : zOk Try.prog (200, [.int .i64 0, .int .i64 0, .int .i64 0, .int .i64 0, .int .i64 0, .int .i64 0, .int .i64 0, .int .i64 0, .int .i64 0, .int .i64 0, .int .i64 0, .int .i64 0, .int .i64 0, .int .i64 0, .int .i64 0, .int .i64 0, .bool false, .int .i64 0, .int .i64 0, .int .i64 0, .int .i64 0, .bool false, .int .i64 0, .int .i64 0, .int .i64 0, .int .i64 0, .bool false, .int .i64 0, .int .i64 0, .int .i64 0, .int .i64 0, .bool false, .int .i64 0, .int .i64 0, .int .i64 0, .int .i64 0, .bool false, .int .i64 0, .int .i64 0, .int .i64 0, .int .i64 0, .bool false, .int .i64 0, .int .i64 0, .int .i64 0, .int .i64 0, .bool false, .int .i64 0, .int .i64 0, .int .i64 0, .int .i64 0, .bool false, .int .i64 0, .int .i64 0, .int .i64 0, .int .i64 0, .slice none 0 0, .int .i64 0]) := by unfold zOk; kernel_rfl
theorem tab_z19 : zOk Try.prog (142, [.pointer none, .pointer none, .pointer none, .pointer none]) := by unfold zOk; kernel_rfl
theorem tab_z20 : zOk Try.prog (206, [.map none, .map none, .slice none 0 0, .int .i64 0]) := by unfold zOk; kernel_rfl
theorem tab_z21 : zOk Try.prog (214, [.int .i64 0, .int .i64 0, .int .i64 0, .int .i64 0]) := by unfold zOk; kernel_rfl
theorem tab_z22 : zOk Try.prog (197, [.bool false, .int .i64 0, .int .i64 0, .int .i64 0, .int .i64 0]) := by unfold zOk; kernel_rfl
theorem tab_z23 : zOk Try.prog (5, [.int .u8 0]) := by unfold zOk; kernel_rfl
theorem tab_z24 : zOk Try.prog (3, [.int .i64 0]) := by unfold zOk; kernel_rfl
theorem tab_z25 : zOk Try.prog (78, [.int .i64 0, .int .i64 0, .int .i64 0, .int .u32 0, .slice none 0 0]) := by unfold zOk; kernel_rfl
theorem tab_z26 : zOk Try.prog (95, [.int .i64 0, .int .i64 0, .int .i64 0, .bool false, .bool false, .int .i64 0, .int .i64 0, .int .u16 0]) := by unfold zOk; kernel_rfl
theorem tab_z27 : zOk Try.prog (4, [.bool false]) := by unfold zOk; kernel_rfl
theorem tab_z28 : zOk Try.prog (156, [.int .i64 0, .int .i64 0, .int .i64 0, .bool false, .int .u8 0, .int .i64 0, .int .i64 0, .bool false, .bool false, .int .i64 0, .int .i64 0]) := by unfold zOk; kernel_rfl
theorem tabOk : TabOk Try.prog tab where
  fo := by as_aux_lemma => kernel_rfl
  ik := by as_aux_lemma => kernel_rfl
  sc := by as_aux_lemma => kernel_rfl
  ag := by as_aux_lemma => kernel_rfl
  el := by as_aux_lemma => kernel_rfl
  ar := by as_aux_lemma => kernel_rfl
  fz := by as_aux_lemma => kernel_rfl
  fl := by as_aux_lemma => kernel_rfl
  bd := by as_aux_lemma => kernel_rfl
  zero := ⟨tab_z0, tab_z1, tab_z2, tab_z3, tab_z4, tab_z5, tab_z6, tab_z7, tab_z8, tab_z9, tab_z10, tab_z11, tab_z12, tab_z13, tab_z14, tab_z15, tab_z16, tab_z17, tab_z18, tab_z19, tab_z20, tab_z21, tab_z22, tab_z23, tab_z24, tab_z25, tab_z26, tab_z27, tab_z28, trivial⟩
  calls := by as_aux_lemma => kernel_rfl
  mixed := by as_aux_lemma => kernel_rfl
end Go.Proofs.Ytmpjdoodpkhmpaa
