/- Bits of whole numbers from 0 on, as sums, quotients and remainders. Conditions: none. -/
import Derived.Test.YtggbhokhibfdmaaVg
set_option linter.unusedVariables false
set_option linter.unusedSimpArgs false
namespace Go.Proofs.Ytggbhokhibfdmaa
namespace Vc
theorem ofInt_nat (k n : Nat) : BitVec.ofInt k (n : Int) = BitVec.ofNat k n := by
  apply BitVec.eq_of_toNat_eq
  simp [BitVec.toNat_ofInt]
theorem bits_and {k : IntKind} {n m : Nat} (hn : n < 2 ^ k.bits) (hm : m < 2 ^ k.bits) : bits .and k n m = k.wrap ((n &&& m : Nat) : Int) := by
  simp only [bits, ofInt_nat, BitVec.toNat_and, BitVec.toNat_ofNat, Nat.mod_eq_of_lt hn, Nat.mod_eq_of_lt hm]
theorem bits_or {k : IntKind} {n m : Nat} (hn : n < 2 ^ k.bits) (hm : m < 2 ^ k.bits) : bits .or k n m = k.wrap ((n ||| m : Nat) : Int) := by
  simp only [bits, ofInt_nat, BitVec.toNat_or, BitVec.toNat_ofNat, Nat.mod_eq_of_lt hn, Nat.mod_eq_of_lt hm]
theorem nat_and_pow (n i : Nat) : n &&& 2 ^ i = 2 ^ i * (n / 2 ^ i % 2) := by
  apply Nat.eq_of_testBit_eq
  intro j
  rw [Nat.testBit_and, Nat.testBit_two_pow, Nat.testBit_two_pow_mul]
  have hb : n.testBit i = decide (n / 2 ^ i % 2 = 1) := Nat.testBit_eq_decide_div_mod_eq
  by_cases hij : i = j
  · subst hij
    rcases Nat.mod_two_eq_zero_or_one (n / 2 ^ i) with h | h <;> simp [h, hb]
  · rcases Nat.mod_two_eq_zero_or_one (n / 2 ^ i) with h | h
    · simp [h, hij]
    · simp only [h, hij, decide_false, Bool.and_false]
      by_cases hle : i ≤ j
      · have hf : Nat.testBit 1 (j - i) = false := by
          cases h : Nat.testBit 1 (j - i) with
          | false => rfl
          | true => rw [Nat.testBit_one_eq_true_iff_self_eq_zero] at h; omega
        simp [hf]
      · simp [hle]
theorem nat_or_1 (a : Nat) : 2 * a ||| 1 = 2 * a + 1 := by
  have := Nat.two_pow_add_eq_or_of_lt (i := 1) (b := 1) (by omega) a
  simpa using this.symm
theorem nat_or_2 (a c : Nat) (hc : c ≤ 1) : (4 * a + c) ||| 2 = 4 * a + c + 2 := by
  have h1 := Nat.two_pow_add_eq_or_of_lt (i := 2) (b := c) (by omega) a
  have h2 := Nat.two_pow_add_eq_or_of_lt (i := 2) (b := c + 2) (by omega) a
  have h3 : c ||| 2 = c + 2 := by rcases (show c = 0 ∨ c = 1 by omega) with rfl | rfl <;> rfl
  rw [show (2 : Nat) ^ 2 = 4 from rfl] at h1 h2
  rw [h1, Nat.or_assoc, h3, ← h2]
  omega
theorem or1 {x : Int} (h0 : 0 ≤ x) (h1 : x ≤ 9223372036854775800) (h2 : x % 2 = 0) : bits .or .i64 x 1 = x + 1 := by
  obtain ⟨n, rfl⟩ := Int.eq_ofNat_of_zero_le h0
  have := bits_or (k := .i64) (n := n) (m := 1) (by simp only [IntKind.bits]; omega) (by simp [IntKind.bits])
  rw [show ((1 : Nat) : Int) = 1 from rfl] at this
  rw [this]
  obtain ⟨a, rfl⟩ : ∃ a, n = 2 * a := ⟨n / 2, by omega⟩
  rw [nat_or_1, IntWalk.i64_in _ (by omega)]
  omega
theorem or2 {x : Int} (h0 : 0 ≤ x) (h1 : x ≤ 9223372036854775800) (h2 : x / 2 % 2 = 0) : bits .or .i64 x 2 = x + 2 := by
  obtain ⟨n, rfl⟩ := Int.eq_ofNat_of_zero_le h0
  have := bits_or (k := .i64) (n := n) (m := 2) (by simp only [IntKind.bits]; omega) (by simp [IntKind.bits])
  rw [show ((2 : Nat) : Int) = 2 from rfl] at this
  rw [this]
  obtain ⟨a, c, hc, rfl⟩ : ∃ a c, c ≤ 1 ∧ n = 4 * a + c := ⟨n / 4, n % 4, by omega, by omega⟩
  rw [nat_or_2 a c hc, IntWalk.i64_in _ (by omega)]
  omega
/-- One bit of a number of 16 bits. -/
theorem and16 {x : Int} (i : Nat) (hi : i < 16) (h0 : 0 ≤ x) (h1 : x ≤ 65535) : bits .and .u16 x ((2 ^ i : Nat) : Int) = (2 ^ i : Nat) * (x / (2 ^ i : Nat) % 2) := by
  obtain ⟨n, rfl⟩ := Int.eq_ofNat_of_zero_le h0
  have h2 : (2 : Nat) ^ i < 2 ^ 16 := Nat.pow_lt_pow_right (by omega) hi
  rw [bits_and (by simp only [IntKind.bits]; omega) (by simpa only [IntKind.bits] using h2), nat_and_pow]
  have h3 : 2 ^ i * (n / 2 ^ i % 2) ≤ 2 ^ i * 1 := Nat.mul_le_mul_left _ (by omega)
  rw [IntWalk.u16_in _ (by omega)]
  simp
theorem and7 {x : Int} (h0 : 0 ≤ x) (h1 : x ≤ 9223372036854775807) : bits .and .i64 x 7 = x % 8 := by
  obtain ⟨n, rfl⟩ := Int.eq_ofNat_of_zero_le h0
  have := bits_and (k := .i64) (n := n) (m := 7) (by simp only [IntKind.bits]; omega) (by simp [IntKind.bits])
  rw [show ((7 : Nat) : Int) = 7 from rfl] at this
  rw [this, show (7 : Nat) = 2 ^ 3 - 1 from rfl, Nat.and_two_pow_sub_one_eq_mod, IntWalk.i64_in _ (by omega)]
  omega
section
variable {P : Program} {w0 : World} {I : List Nat} {T : Tab} {L : Hs}
theorem YQ.or1 {t : TypeId} {x y : Operand} {a : Int} {K : Value → Prop} (h : 0 ≤ a ∧ a ≤ 9223372036854775800 ∧ a % 2 = 0) (k : K (.int .i64 (a + 1))) :
    YQ P w0 I L (.bin .or t x y (.int .i64 a) (.int .i64 1)) K := YQ.bits (by simp) (by rw [Vc.or1 h.1 h.2.1 h.2.2]; exact k)
theorem YQ.or2 {t : TypeId} {x y : Operand} {a : Int} {K : Value → Prop} (h : 0 ≤ a ∧ a ≤ 9223372036854775800 ∧ a / 2 % 2 = 0) (k : K (.int .i64 (a + 2))) :
    YQ P w0 I L (.bin .or t x y (.int .i64 a) (.int .i64 2)) K := YQ.bits (by simp) (by rw [Vc.or2 h.1 h.2.1 h.2.2]; exact k)
theorem YQ.and7 {t : TypeId} {x y : Operand} {a : Int} {K : Value → Prop} (h : 0 ≤ a ∧ a ≤ 9223372036854775807) (k : K (.int .i64 (a % 8))) :
    YQ P w0 I L (.bin .and t x y (.int .i64 a) (.int .i64 7)) K := YQ.bits (by simp) (by rw [Vc.and7 h.1 h.2]; exact k)
theorem YQ.and16_0 {t : TypeId} {x y : Operand} {a : Int} {K : Value → Prop} (h : 0 ≤ a ∧ a ≤ 65535) (k : K (.int .u16 (a % 2))) :
    YQ P w0 I L (.bin .and t x y (.int .u16 a) (.int .u16 1)) K := YQ.bits (by simp) (by
      have := and16 (x := a) 0 (by omega) h.1 h.2
      rw [show ((2 ^ 0 : Nat) : Int) = 1 from rfl] at this
      rw [this, Int.one_mul, Int.ediv_one]; exact k)
theorem YQ.and16_1 {t : TypeId} {x y : Operand} {a : Int} {K : Value → Prop} (h : 0 ≤ a ∧ a ≤ 65535) (k : K (.int .u16 (2 * (a / 2 % 2)))) :
    YQ P w0 I L (.bin .and t x y (.int .u16 a) (.int .u16 2)) K := YQ.bits (by simp) (by
      have := and16 (x := a) 1 (by omega) h.1 h.2
      rw [show ((2 ^ 1 : Nat) : Int) = 2 from rfl] at this
      rw [this]; exact k)
theorem YQ.and16_5 {t : TypeId} {x y : Operand} {a : Int} {K : Value → Prop} (h : 0 ≤ a ∧ a ≤ 65535) (k : K (.int .u16 (32 * (a / 32 % 2)))) :
    YQ P w0 I L (.bin .and t x y (.int .u16 a) (.int .u16 32)) K := YQ.bits (by simp) (by
      have := and16 (x := a) 5 (by omega) h.1 h.2
      rw [show ((2 ^ 5 : Nat) : Int) = 32 from rfl] at this
      rw [this]; exact k)
theorem YU.store1L (TO : TabOk P T) {t b o : Nat} {v : Value} {ty : Nat} {cs : List Value} {K : Hs → Prop} (hs : memB t T.sc = true) (hv : v.oneCell' = true)
    (i : Nat) (hi : cAt L i = some ⟨b, ty, cs⟩) (ho : Nat.blt o cs.length = true) (k : K (L.set i ⟨b, ty, cs.set o v⟩)) : YU P w0 I L t (.pointer (some ⟨b, o, none⟩)) v K :=
  YU.store1 TO hs hv i hi (by simpa using ho) k
theorem YU.storeAL (TO : TabOk P T) {t b o n : Nat} {vs : List Value} {ty : Nat} {cs : List Value} {K : Hs → Prop} (hs : natAt T.ag t = some n) (hl : vs.length = n) (h1 : vs.all (·.oneCell') = true)
    (i : Nat) (hi : cAt L i = some ⟨b, ty, cs⟩) (ho : Nat.ble (o + n) cs.length = true) (k : K (L.set i ⟨b, ty, cs.take o ++ vs ++ cs.drop (o + n)⟩)) : YU P w0 I L t (.pointer (some ⟨b, o, none⟩)) (.agg vs.toArray) K :=
  YU.storeA TO hs hl h1 i hi (by simpa using ho) k
end
end Vc
end Go.Proofs.Ytggbhokhibfdmaa
