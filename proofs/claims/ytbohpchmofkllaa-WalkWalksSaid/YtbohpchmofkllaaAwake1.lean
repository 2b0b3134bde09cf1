/- The examples of the memory come out; an act by both. Conditions: none. -/
import Derived.Test.YtbohpchmofkllaaRamB
import Derived.Test.YtbohpchmofkllaaFrame
set_option linter.unusedVariables false
set_option linter.unusedSimpArgs false
set_option linter.unusedSectionVars false
set_option maxRecDepth 10000
set_option maxHeartbeats 4000000
namespace Go.Proofs.Ytbohpchmofkllaa
open Vc Mem
namespace A1
def x0 : List Int := List.replicate (2 * 64) 0
def x1 : List Int := storeL 2 x0 4 4 287454020
def x2 : List Int := layX 2 x1 1 [9, 8]
theorem l0 : x0.length = 2 * 64 := by kernel_rfl
theorem l1 : x1.length = 2 * 64 := by kernel_rfl
theorem l2 : x2.length = 2 * 64 := by kernel_rfl
theorem y0 : By x0 := By.rep _
theorem y1 : By x1 := y0.store _ _ _ _
theorem y2 : By x2 := By.layX y1 (by intro i x h; match i, h with | 0, h => cases h; omega | 1, h => cases h; omega) l1 1
theorem s0 : storeL 2 (List.replicate (2 * 64) 0) 4 4 287454020 = x1 := rfl
theorem s1 : layX 2 x1 1 [9, 8] = x2 := rfl
theorem a1 : loadE 2 x1 4 1 = 68 := by kernel_rfl
theorem a2 : loadE 2 x1 6 2 = 4386 := by kernel_rfl
theorem a3 : loadE 2 x1 3 3 = 0 := by kernel_rfl
theorem a4 : loadE 2 x1 (-1) 2 = 0 := by kernel_rfl
theorem a5 : loadE 2 x1 128 1 = 0 := by kernel_rfl
theorem a6 : loadE 2 x2 64 2 = 2057 := by kernel_rfl
theorem b0 : bad 2 4 4 = 0 := by kernel_rfl
theorem b1 : bad 2 4 1 = 0 := by kernel_rfl
theorem b2 : bad 2 6 2 = 0 := by kernel_rfl
theorem b3 : bad 2 3 3 = 1 := by kernel_rfl
theorem b4 : bad 2 (-1) 2 = 11 := by kernel_rfl
theorem b5 : bad 2 128 1 = 10 := by kernel_rfl
theorem b6 : bad 2 64 2 = 0 := by kernel_rfl
theorem e1 : layE 2 1 2 = 0 := by kernel_rfl
end A1
open A1 in
/-- An act upon the memory. -/
structure RAc where
  d : Int
  a : Int
  s : Int
  w : Int
  b : Option Addr
  bl : Nat
  bc : Nat
def racV (x : RAc) : List Value := [.int .i64 x.d, .int .i64 x.a, .int .i64 x.s, .int .u32 x.w, .slice x.b x.bl x.bc]
def rdoX (n : Nat) (xs : List Int) (x : RAc) (bs : List Int) : List Int :=
  if x.d = 2 then storeL n xs x.a x.s x.w else if x.d = 4 then layX n xs x.a bs else if x.d = 5 then clrX n xs x.a else xs
theorem rdoX_length {n : Nat} {xs : List Int} (hl : xs.length = n * 64) (x : RAc) (bs : List Int) : (rdoX n xs x bs).length = n * 64 := by
  unfold rdoX
  split
  · rw [storeL_length, hl]
  · split
    · exact layX_length hl _ _
    · split
      · exact clrX_length hl _
      · exact hl
theorem By.rdo {n : Nat} {xs bs : List Int} (hx : By xs) (hb : By bs) (hl : xs.length = n * 64) (x : RAc) : By (rdoX n xs x bs) := by
  unfold rdoX
  split
  · exact hx.store _ _ _ _
  · split
    · exact By.layX hx hb hl _
    · split
      · exact By.clrX hx hl _
      · exact hx
end Go.Proofs.Ytbohpchmofkllaa
