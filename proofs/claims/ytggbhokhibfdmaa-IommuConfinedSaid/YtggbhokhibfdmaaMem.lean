/- A memory of bytes: what is loaded and stored, in plain lists. Conditions: none. -/
import Derived.Test.YtggbhokhibfdmaaBits
set_option linter.unusedVariables false
set_option linter.unusedSimpArgs false
namespace Go.Proofs.Ytggbhokhibfdmaa
namespace Mem
open Vc
/-- All are bytes. -/
def By (xs : List Int) : Prop := ∀ (i : Nat) x, xs[i]? = some x → 0 ≤ x ∧ x ≤ 255
def gt (xs : List Int) (i : Nat) : Int := xs.getD i 0
theorem gt_of {xs : List Int} {i : Nat} (h : i < xs.length) : xs[i]? = some (gt xs i) := by simp [gt, List.getD_eq_getElem?_getD, List.getElem?_eq_getElem h]
theorem By.gt {xs : List Int} (h : By xs) (i : Nat) : 0 ≤ gt xs i ∧ gt xs i ≤ 255 := by
  rcases Nat.lt_or_ge i xs.length with h1 | h1
  · exact h i _ (gt_of h1)
  · simp [Mem.gt, List.getD_eq_getElem?_getD, List.getElem?_eq_none h1]
theorem By.set {xs : List Int} (h : By xs) (i : Nat) (x : Int) (hx : 0 ≤ x ∧ x ≤ 255) : By (xs.set i x) := by
  intro j y hj
  by_cases hij : i = j
  · subst hij
    rw [List.getElem?_set_self'] at hj
    cases hq : xs[i]? with
    | none => simp [hq] at hj
    | some z => simp [hq] at hj; subst hj; exact hx
  · rw [List.getElem?_set_ne hij] at hj
    exact h j y hj
theorem gt_set {xs : List Int} {i j : Nat} {x : Int} (h : i < xs.length) : gt (xs.set i x) j = if i = j then x else gt xs j := by
  simp only [gt, List.getD_eq_getElem?_getD]
  by_cases hij : i = j
  · subst hij
    rw [List.getElem?_set_self h, if_pos rfl]; rfl
  · rw [List.getElem?_set_ne hij, if_neg hij]
/-- What is wrong with an access. -/
def bad (n : Nat) (a s : Int) : Int := if s ≠ 1 ∧ s ≠ 2 ∧ s ≠ 4 then 1 else if a.tmod s ≠ 0 then 11 else if a < 0 ∨ (n : Int) * 64 ≤ a then 10 else 0
structure Fine (n : Nat) (a s : Int) : Prop where
  size : s = 1 ∨ s = 2 ∨ s = 4
  mod : a % s = 0
  lo : 0 ≤ a
  hi : a < n * 64
theorem fine_of {n : Nat} {a s : Int} (h : bad n a s = 0) : Fine n a s := by
  unfold bad at h
  split at h
  · exact absurd h (by decide)
  · rename_i h1
    split at h
    · exact absurd h (by decide)
    · rename_i h2
      split at h
      · exact absurd h (by decide)
      · rename_i h3
        refine ⟨by omega, ?_, by omega, by omega⟩
        rw [Int.tmod_eq_emod_of_nonneg (by omega)] at h2
        omega
theorem bad_of {n : Nat} {a s : Int} (h : Fine n a s) : bad n a s = 0 := by
  obtain ⟨h1, h2, h3, h4⟩ := h
  unfold bad
  rw [if_neg (by omega), if_neg (by rw [Int.tmod_eq_emod_of_nonneg h3]; omega), if_neg (by omega)]
theorem bad_cases (n : Nat) (a s : Int) : bad n a s = 0 ∨ bad n a s = 1 ∨ bad n a s = 10 ∨ bad n a s = 11 := by
  unfold bad
  split
  · simp
  · split
    · simp
    · split <;> simp
/-- An access that is fine lies in its frame. -/
theorem Fine.room {n : Nat} {a s : Int} (h : Fine n a s) : a % 64 + s ≤ 64 ∧ a + s ≤ n * 64 := by
  obtain ⟨h1, h2, h3, h4⟩ := h
  rcases h1 with rfl | rfl | rfl <;> omega
def ldV (xs : List Int) (a : Nat) (s : Int) : Int :=
  if s = 1 then gt xs a else if s = 2 then gt xs (a + 1) * 256 + gt xs a else ((gt xs (a + 3) * 256 + gt xs (a + 2)) * 256 + gt xs (a + 1)) * 256 + gt xs a
def stL (xs : List Int) (a : Nat) (s w : Int) : List Int :=
  if s = 1 then xs.set a (w % 256) else if s = 2 then (xs.set a (w % 256)).set (a + 1) (w / 256 % 256) else (((xs.set a (w % 256)).set (a + 1) (w / 256 % 256)).set (a + 2) (w / 65536 % 256)).set (a + 3) (w / 16777216 % 256)
theorem stL_length (xs : List Int) (a : Nat) (s w : Int) : (stL xs a s w).length = xs.length := by
  unfold stL
  split
  · simp
  · split <;> simp
theorem By.st {xs : List Int} (h : By xs) (a : Nat) (s w : Int) : By (stL xs a s w) := by
  unfold stL
  split
  · exact h.set _ _ (by omega)
  · split
    · exact (h.set _ _ (by omega)).set _ _ (by omega)
    · exact (((h.set _ _ (by omega)).set _ _ (by omega)).set _ _ (by omega)).set _ _ (by omega)
theorem ldV_in {xs : List Int} (h : By xs) (a : Nat) (s : Int) : 0 ≤ ldV xs a s ∧ ldV xs a s ≤ 4294967295 := by
  have h0 := h.gt a
  have h1 := h.gt (a + 1)
  have h2 := h.gt (a + 2)
  have h3 := h.gt (a + 3)
  unfold ldV
  split
  · omega
  · split <;> omega
/-- Each byte behind a store. -/
theorem gt_st {xs : List Int} {a : Nat} {s w : Int} (hs : s = 1 ∨ s = 2 ∨ s = 4) (hr : a + s.toNat ≤ xs.length) (j : Nat) :
    gt (stL xs a s w) j = if a ≤ j ∧ j < a + s.toNat then w / (256 : Int) ^ (j - a) % 256 else gt xs j := by
  rcases hs with rfl | rfl | rfl
  · simp only [stL, if_pos]
    rw [gt_set (by simp at hr; omega)]
    by_cases h : a = j
    · subst h; simp
    · rw [if_neg h, if_neg (by simp; omega)]
  · simp only [stL, show ¬ ((2 : Int) = 1) by omega, if_false, if_true]
    simp at hr
    rw [gt_set (by simp; omega), gt_set (by omega)]
    by_cases h : a = j
    · subst h; simp
    · by_cases h2 : a + 1 = j
      · subst h2; simp
      · rw [if_neg h2, if_neg h, if_neg (by simp; omega)]
  · simp only [stL, show ¬ ((4 : Int) = 1) by omega, show ¬ ((4 : Int) = 2) by omega, if_false]
    simp at hr
    rw [gt_set (by simp; omega), gt_set (by simp; omega), gt_set (by simp; omega), gt_set (by omega)]
    by_cases h : a = j
    · subst h; simp
    · by_cases h2 : a + 1 = j
      · subst h2; simp
      · by_cases h3 : a + 2 = j
        · subst h3; simp
        · by_cases h4 : a + 3 = j
          · subst h4; simp
          · rw [if_neg h4, if_neg h3, if_neg h2, if_neg h, if_neg (by simp; omega)]
def loadE (n : Nat) (xs : List Int) (a s : Int) : Int := if bad n a s = 0 then ldV xs a.toNat s else 0
def storeL (n : Nat) (xs : List Int) (a s w : Int) : List Int := if bad n a s = 0 then stL xs a.toNat s w else xs
theorem storeL_length (n : Nat) (xs : List Int) (a s w : Int) : (storeL n xs a s w).length = xs.length := by
  unfold storeL
  split
  · exact stL_length ..
  · rfl
theorem By.store {xs : List Int} (h : By xs) (n : Nat) (a s w : Int) : By (storeL n xs a s w) := by
  unfold storeL
  split
  · exact h.st _ _ _
  · exact h
/-- A frame's bytes. -/
def frm (xs : List Int) (k : Nat) : List Int := (xs.drop (k * 64)).take 64
theorem frm_length {n : Nat} {xs : List Int} (hl : xs.length = n * 64) {k : Nat} (hk : k < n) : (frm xs k).length = 64 := by
  simp only [frm, List.length_take, List.length_drop, hl]
  omega
/-- Bytes laid at a place. -/
def layL (xs : List Int) (a : Nat) (bs : List Int) : List Int := xs.take a ++ bs ++ xs.drop (a + bs.length)
theorem layL_length {xs : List Int} {a : Nat} {bs : List Int} (h : a + bs.length ≤ xs.length) : (layL xs a bs).length = xs.length := by
  simp only [layL, List.length_append, List.length_take, List.length_drop]
  omega
theorem layL_get {xs : List Int} {a : Nat} {bs : List Int} (h : a + bs.length ≤ xs.length) (j : Nat) : (layL xs a bs)[j]? = if a ≤ j ∧ j < a + bs.length then bs[j - a]? else xs[j]? := by
  simp only [layL]
  rcases Nat.lt_or_ge j a with h1 | h1
  · rw [List.append_assoc, List.getElem?_append_left (by simp; omega), List.getElem?_take, if_pos h1, if_neg (by omega)]
  · rcases Nat.lt_or_ge j (a + bs.length) with h2 | h2
    · rw [List.getElem?_append_left (by simp; omega), List.getElem?_append_right (by simp; omega), if_pos ⟨h1, h2⟩, List.length_take, Nat.min_eq_left (by omega)]
    · rw [List.getElem?_append_right (by simp; omega), List.getElem?_drop, if_neg (by omega)]
      congr 1
      simp
      omega
theorem By.lay {xs bs : List Int} (h : By xs) (hb : By bs) {a : Nat} (hl : a + bs.length ≤ xs.length) : By (layL xs a bs) := by
  intro j y hj
  rw [layL_get hl] at hj
  split at hj
  · exact hb _ _ hj
  · exact h _ _ hj
theorem By.rep (n : Nat) : By (List.replicate n 0) := by
  intro j y hj
  have := List.eq_of_mem_replicate (List.mem_iff_getElem?.2 ⟨j, hj⟩)
  omega
theorem By.frm {xs : List Int} (h : By xs) (k : Nat) : By (frm xs k) := by
  intro j y hj
  simp only [Mem.frm, List.getElem?_take] at hj
  split at hj
  · rw [List.getElem?_drop] at hj; exact h _ _ hj
  · cases hj
theorem layL_one {xs : List Int} {a : Nat} {x : Int} (h : a < xs.length) : layL xs a [x] = xs.set a x := by
  apply List.ext_getElem?
  intro j
  rw [layL_get (by simp; omega)]
  by_cases hj : a = j
  · subst hj; simp [h]
  · rw [List.getElem?_set_ne hj, if_neg (by simp; omega)]
end Mem
end Go.Proofs.Ytggbhokhibfdmaa
