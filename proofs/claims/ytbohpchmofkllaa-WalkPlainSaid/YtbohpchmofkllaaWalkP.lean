/- What walks over tables answer, as far as the laws speak of it. Conditions: none. -/
import Derived.Test.YtbohpchmofkllaaWalkM
set_option linter.unusedVariables false
set_option linter.unusedSimpArgs false
set_option maxRecDepth 10000
namespace Go.Proofs.Ytbohpchmofkllaa
open Vc Mem
theorem dcX_r (m : Int) : 0 ≤ (dcX m).r ∧ (dcX m).r ≤ 7 := by
  show 0 ≤ dcR m ∧ dcR m ≤ 7
  unfold dcR
  split <;> omega
theorem getX_r (n : Nat) (xs : List Int) (t i : Int) : 0 ≤ (getX n xs t i).r ∧ (getX n xs t i).r ≤ 7 := by
  unfold getX
  split
  · exact dcX_r _
  · exact ⟨by decide, by decide⟩
theorem stpX_r (n : Nat) (xs : List Int) (t pg lv : Int) : 0 ≤ (stpX n xs t pg lv).r ∧ (stpX n xs t pg lv).r ≤ 7 := by
  unfold stpX
  split
  · exact getX_r _ _ _ _
  · exact ⟨by decide, by decide⟩
theorem sgl_b (n : Nat) (xs : List Int) (root pg : Int) : 0 ≤ (sgl n xs root pg).b ∧ (sgl n xs root pg).b ≤ 7 := by
  unfold sgl
  split
  · exact ⟨by decide, by decide⟩
  · split
    · exact ⟨by show (0 : Int) ≤ 0; omega, by show (0 : Int) ≤ 7; omega⟩
    · split
      · exact ⟨by show (0 : Int) ≤ 0; omega, by show (0 : Int) ≤ 7; omega⟩
      · exact stpX_r _ _ _ _ _
theorem band_8 : ∀ a b : Fin 8, ∀ w : Fin 3, (¬ band a.1 (2 ^ w.1 : Nat) = 0 → ¬ band b.1 (2 ^ w.1 : Nat) = 0 → ¬ band (band a.1 b.1) (2 ^ w.1 : Nat) = 0) := by decide
theorem band_not8 : ∀ a b : Fin 8, Vc.bits .andNot .i64 (band a.1 b.1) a.1 = 0 := by decide
theorem band_08 : ∀ b : Fin 8, band 0 b.1 = 0 := by decide
theorem not_self8 : ∀ a : Fin 8, Vc.bits .andNot .i64 a.1 a.1 = 0 := by decide
theorem in8 {a : Int} (h : 0 ≤ a ∧ a ≤ 7) : ∃ k : Fin 8, a = (k.1 : Int) := by
  obtain ⟨k, hk⟩ := Int.eq_ofNat_of_zero_le h.1
  exact ⟨⟨k, by omega⟩, hk⟩
theorem band_both {a b w : Int} (ha : 0 ≤ a ∧ a ≤ 7) (hb : 0 ≤ b ∧ b ≤ 7) (hw : w = 1 ∨ w = 2 ∨ w = 4) (h1 : ¬ band a w = 0) (h2 : ¬ band b w = 0) : ¬ band (band a b) w = 0 := by
  obtain ⟨a, rfl⟩ := in8 ha
  obtain ⟨b, rfl⟩ := in8 hb
  rcases hw with rfl | rfl | rfl
  · exact band_8 a b 0 h1 h2
  · exact band_8 a b 1 h1 h2
  · exact band_8 a b 2 h1 h2
theorem band_not {a b : Int} (ha : 0 ≤ a ∧ a ≤ 7) (hb : 0 ≤ b ∧ b ≤ 7) : Vc.bits .andNot .i64 (band a b) a = 0 := by
  obtain ⟨a, rfl⟩ := in8 ha
  obtain ⟨b, rfl⟩ := in8 hb
  exact band_not8 a b
theorem not_self {a : Int} (ha : 0 ≤ a ∧ a ≤ 7) : Vc.bits .andNot .i64 a a = 0 := by
  obtain ⟨a, rfl⟩ := in8 ha
  exact not_self8 a
theorem band_0 {b : Int} (hb : 0 ≤ b ∧ b ≤ 7) : band 0 b = 0 := by
  obtain ⟨b, rfl⟩ := in8 hb
  exact band_08 b
/-- A page that is found has a right frame, and its entry has the right. -/
theorem scd_ok {n : Nat} {xs : List Int} {root pg want : Int} (h : (scd n xs root pg want).f.k = 0) : ((sgl n xs root pg).f.k = 0 ∧ ¬ band (sgl n xs root pg).b want = 0) ∧ (scd n xs root pg want).a = (sgl n xs root pg).a ∧ (scd n xs root pg want).b = (sgl n xs root pg).b := by
  unfold scd at h ⊢
  split
  · rename_i h1; rw [if_pos h1] at h; exact absurd h h1
  · rename_i h1
    rw [if_neg h1] at h
    split
    · rename_i h2; rw [if_pos h2] at h; exact absurd h (by show ¬ ((2 : Int) = 0); decide)
    · rename_i h2
      exact ⟨⟨by omega, h2⟩, rfl, rfl⟩
theorem scd_no {n : Nat} {xs : List Int} {root pg want : Int} (h : ¬ (scd n xs root pg want).f.k = 0) : (scd n xs root pg want).a = 0 ∧ (scd n xs root pg want).b = 0 := by
  unfold scd at h ⊢
  split
  · exact ⟨rfl, rfl⟩
  · rename_i h1
    rw [if_neg h1] at h
    split
    · exact ⟨rfl, rfl⟩
    · rename_i h2
      rw [if_neg h2] at h
      exact absurd rfl h
theorem sgl_pg {n : Nat} {xs : List Int} {root pg : Int} (h : (sgl n xs root pg).f.k = 0) : 0 ≤ pg ∧ pg ≤ 1023 := by
  by_cases hp : 0 ≤ pg ∧ pg ≤ 1023
  · exact hp
  · unfold sgl at h
    rw [if_pos hp] at h
    exact absurd h (by decide)
theorem gst_r (n : Nat) (xs : List Int) (se g pg lv : Int) : 0 ≤ (gst n xs se g pg lv).x.r ∧ (gst n xs se g pg lv).x.r ≤ 7 := by
  unfold gst
  split
  · exact ⟨by show (0 : Int) ≤ 0; omega, by show (0 : Int) ≤ 7; omega⟩
  · split
    · exact ⟨by show (0 : Int) ≤ 0; omega, by show (0 : Int) ≤ 7; omega⟩
    · exact stpX_r _ _ _ _ _
theorem own_r (n : Nat) (xs : List Int) (s : Sp) (pg : Int) : 0 ≤ (own n xs s pg).x.r ∧ (own n xs s pg).x.r ≤ 7 := by
  unfold own
  split <;> exact gst_r _ _ _ _ _ _
/-- A guest's page lies in a frame that the other table says of some page. -/
theorem nst_ok {n : Nat} {xs : List Int} {s : Sp} {pg want : Int} (h : (nst n xs s pg want).f.k = 0) :
    ∃ g : Nat, g < 1024 ∧ (sgl n xs s.se g).f.k = 0 ∧ (sgl n xs s.se g).a = (nst n xs s pg want).a ∧ ¬ band (sgl n xs s.se g).b want = 0 ∧ Vc.bits .andNot .i64 (nst n xs s pg want).b (sgl n xs s.se g).b = 0 ∧ ¬ band (nst n xs s pg want).b want = 0 := by
  unfold nst at h ⊢
  split
  · rename_i h1; rw [if_pos h1] at h; exact absurd h (by decide)
  · rename_i h1
    rw [if_neg h1] at h
    have hw : want = 1 ∨ want = 2 ∨ want = 4 := by
      by_cases hw : want = 1 ∨ want = 2 ∨ want = 4
      · exact hw
      · exact absurd (fun h2 => hw h2.2) h1
    split
    · rename_i h2
      rw [if_pos h2] at h
      obtain ⟨⟨a1, a2⟩, a3, a4⟩ := scd_ok h
      have hp := sgl_pg a1
      obtain ⟨g, hg⟩ := Int.eq_ofNat_of_zero_le hp.1
      subst hg
      exact ⟨g, by omega, a1, a3.symm, a2, by rw [a4]; exact not_self (sgl_b _ _ _ _), by rw [a4]; exact a2⟩
    · rename_i h2
      rw [if_neg h2] at h
      split
      · rename_i h3; rw [if_pos h3] at h; exact absurd h h3
      · rename_i h3
        rw [if_neg h3] at h
        split
        · rename_i h4; rw [if_pos h4] at h; exact absurd h (by show ¬ ((2 : Int) = 0); decide)
        · rename_i h4
          rw [if_neg h4] at h
          obtain ⟨⟨a1, a2⟩, a3, a4⟩ := scd_ok h
          have hp := sgl_pg a1
          obtain ⟨g, hg⟩ := Int.eq_ofNat_of_zero_le hp.1
          refine ⟨g, by omega, by rw [← hg]; exact a1, by rw [← hg]; exact a3.symm, by rw [← hg]; exact a2, ?_, ?_⟩
          · show Vc.bits .andNot .i64 (band (scd n xs s.se (own n xs s pg).x.f want).b (own n xs s pg).x.r) _ = 0
            rw [a4, ← hg]
            exact band_not (sgl_b _ _ _ _) (own_r _ _ _ _)
          · show ¬ band (band (scd n xs s.se (own n xs s pg).x.f want).b (own n xs s pg).x.r) want = 0
            rw [a4]
            exact band_both (sgl_b _ _ _ _) (own_r _ _ _ _) hw a2 h4
theorem nst_no {n : Nat} {xs : List Int} {s : Sp} {pg want : Int} (h : ¬ (nst n xs s pg want).f.k = 0) : (nst n xs s pg want).a = 0 ∧ (nst n xs s pg want).b = 0 := by
  unfold nst at h ⊢
  split
  · exact ⟨rfl, rfl⟩
  · rename_i h1
    rw [if_neg h1] at h
    split
    · rename_i h2
      rw [if_pos h2] at h
      exact scd_no h
    · rename_i h2
      rw [if_neg h2] at h
      split
      · exact ⟨rfl, rfl⟩
      · rename_i h3
        rw [if_neg h3] at h
        split
        · exact ⟨rfl, rfl⟩
        · rename_i h4
          rw [if_neg h4] at h
          obtain ⟨a1, a2⟩ := scd_no h
          refine ⟨a1, ?_⟩
          show band (scd n xs s.se (own n xs s pg).x.f want).b (own n xs s pg).x.r = 0
          rw [a2]
          exact band_0 (own_r _ _ _ _)
end Go.Proofs.Ytbohpchmofkllaa
