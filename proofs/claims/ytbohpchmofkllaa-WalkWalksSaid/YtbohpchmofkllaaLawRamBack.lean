/- 'viceroylaw01.RamBack' and 'viceroylaw01.RamHalves' answer true at every input. Conditions: none beside the rows' own. -/
import Derived.Test.YtbohpchmofkllaaRows
import Derived.Test.YtbohpchmofkllaaAwake1
set_option linter.unusedVariables false
set_option linter.unusedSimpArgs false
set_option linter.unusedSectionVars false
set_option maxRecDepth 10000
set_option maxHeartbeats 4000000
namespace Go.Proofs.Ytbohpchmofkllaa
open Vc Mem
section
variable {P : Program} {w0 : World} {I : List Nat} {T : Tab} {L : Hs}
theorem and255 {a : Int} (h : 0 ≤ a ∧ a ≤ 4294967295) : Vc.bits .and .u32 a 255 = a % 256 := by
  obtain ⟨n, rfl⟩ := Int.eq_ofNat_of_zero_le h.1
  have := bits_and (k := .u32) (show n < 2 ^ 32 by omega) (show 255 < 2 ^ 32 by omega)
  rw [show ((255 : Nat) : Int) = 255 from rfl] at this
  rw [this, wrap32', show n &&& 255 = n % 2 ^ 8 from Nat.and_two_pow_sub_one_eq_mod n 8]
  omega
theorem and65535 {a : Int} (h : 0 ≤ a ∧ a ≤ 4294967295) : Vc.bits .and .u32 a 65535 = a % 65536 := by
  obtain ⟨n, rfl⟩ := Int.eq_ofNat_of_zero_le h.1
  have := bits_and (k := .u32) (show n < 2 ^ 32 by omega) (show 65535 < 2 ^ 32 by omega)
  rw [show ((65535 : Nat) : Int) = 65535 from rfl] at this
  rw [this, wrap32', show n &&& 65535 = n % 2 ^ 16 from Nat.and_two_pow_sub_one_eq_mod n 16]
  omega
theorem YQ.and255 {t : TypeId} {x y : Operand} {a b : Int} {K : Value → Prop} (h : b = 255 ∧ 0 ≤ a ∧ a ≤ 4294967295) (k : K (.int .u32 (a % 256))) : YQ P w0 I L (.bin .and t x y (.int .u32 a) (.int .u32 b)) K :=
  YQ.bits (.inl rfl) (by rw [h.1, Proofs.Ytbohpchmofkllaa.and255 h.2]; exact k)
theorem YQ.and65535 {t : TypeId} {x y : Operand} {a b : Int} {K : Value → Prop} (h : b = 65535 ∧ 0 ≤ a ∧ a ≤ 4294967295) (k : K (.int .u32 (a % 65536))) : YQ P w0 I L (.bin .and t x y (.int .u32 a) (.int .u32 b)) K :=
  YQ.bits (.inl rfl) (by rw [h.1, Proofs.Ytbohpchmofkllaa.and65535 h.2]; exact k)
theorem YQ.shl1 {t : TypeId} {x y : Operand} {ky : IntKind} {b : Int} {K : Value → Prop} (j : Nat) (d : Int) (h : b = 8 * j) (hj : j ≤ 3) (hd : (2 : Int) ^ (8 * j) = d) (k : K (.int .u32 d)) : YQ P w0 I L (.bin .shl t x y (.int .u32 1) (.int ky b)) K := by
  subst h
  refine YQ.shl (by omega) ?_
  rw [show ((8 * (j : Int)).toNat) = 8 * j by omega, show min (8 * j) IntKind.u32.bits = 8 * j from Nat.min_eq_left (by show 8 * j ≤ 32; omega), hd, Int.one_mul]
  refine Wr.u32 ?_ k
  have : j = 0 ∨ j = 1 ∨ j = 2 ∨ j = 3 := by omega
  rcases this with rfl | rfl | rfl | rfl <;> (subst hd; decide)
end
/-- A byte of what was stored. -/
theorem byte_st {xs : List Int} {a : Nat} {s w : Int} (hs : s = 1 ∨ s = 2 ∨ s = 4) (hr : a + s.toNat ≤ xs.length) (j : Nat) (hj : j < s.toNat) : gt (stL xs a s w) (a + j) = w / (256 : Int) ^ j % 256 := by
  rw [gt_st hs hr, if_pos (by omega), Nat.add_sub_cancel_left]
theorem ld_st {xs : List Int} {a : Nat} {s w : Int} (hw : 0 ≤ w ∧ w ≤ 4294967295) (hs : s = 1 ∨ s = 2 ∨ s = 4) (hr : a + s.toNat ≤ xs.length) : ldV (stL xs a s w) a s = if s = 1 then w % 256 else if s = 2 then w % 65536 else w := by
  have b0 := byte_st (w := w) hs hr 0 (by rcases hs with rfl | rfl | rfl <;> decide)
  rcases hs with rfl | rfl | rfl
  · simp only [ldV, if_true]
    rw [Nat.add_zero, Int.pow_zero] at b0
    rw [b0]
    omega
  · have b1 := byte_st (w := w) (.inr (.inl rfl)) hr 1 (by decide)
    simp only [ldV, show ¬ ((2 : Int) = 1) by omega, if_true, if_false]
    rw [Nat.add_zero, Int.pow_zero] at b0
    rw [b0, b1]
    omega
  · have b1 := byte_st (w := w) (.inr (.inr rfl)) hr 1 (by decide)
    have b2 := byte_st (w := w) (.inr (.inr rfl)) hr 2 (by decide)
    have b3 := byte_st (w := w) (.inr (.inr rfl)) hr 3 (by decide)
    simp only [ldV, show ¬ ((4 : Int) = 1) by omega, show ¬ ((4 : Int) = 2) by omega, if_false]
    rw [Nat.add_zero, Int.pow_zero] at b0
    rw [b0, b1, b2, b3]
    rw [show (256 : Int) ^ 1 = 256 from rfl, show (256 : Int) ^ 2 = 65536 from rfl, show (256 : Int) ^ 3 = 16777216 from rfl]
    omega
theorem same64 (xs ys : List Int) (hx : xs.length = 64) (hy : ys.length = 64) (a b : Option Addr) (ca cb : Nat) (w : World) (ha : Arr w 1 u8V a xs) (hb : Arr w 1 u8V b ys) : Con Try.prog 23 [.slice a 64 ca, .slice b 64 cb] w []
    (fun y L' => y = .bool (decide (xs = ys)) ∧ L' = []) := by
  have := same_bytes xs ys (by omega) a b ca cb w ha hb
  rwa [hx, hy] at this
end Go.Proofs.Ytbohpchmofkllaa
