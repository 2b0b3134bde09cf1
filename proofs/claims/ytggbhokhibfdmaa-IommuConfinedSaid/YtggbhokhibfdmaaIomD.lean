/- When an access goes through, and where it lies; frames as the tail of a list of blocks. Conditions: none. -/
import Derived.Test.YtggbhokhibfdmaaIomC
set_option linter.unusedVariables false
set_option linter.unusedSimpArgs false
set_option linter.unusedSectionVars false
set_option maxRecDepth 10000
set_option maxHeartbeats 4000000
namespace Go.Proofs.Ytggbhokhibfdmaa
open Vc Mem
/-- That an access goes through, by the tables alone. -/
def mayP (s : Js) (st ad : Int) (wr : Bool) (root : Int) : Prop :=
  isS st ∧ (0 ≤ ad ∧ ad ≤ 65535) ∧ mget s.R st = some root ∧ (sgl 16 s.X root (ad / 64)).f.k = 0 ∧ ¬ band (sgl 16 s.X root (ad / 64)).b (wn wr) = 0 ∧ (sgl 16 s.X root (ad / 64)).a < 16
theorem fnd2_0 {n : Nat} {xs : List Int} {root st pg want : Int} : (fnd2 (some root) 16 xs st pg want).k = 0 ↔ (sgl 16 xs root pg).f.k = 0 ∧ ¬ band (sgl 16 xs root pg).b want = 0 ∧ (sgl 16 xs root pg).a < 16 := by
  rw [fnd2_s]
  by_cases h1 : (sgl 16 xs root pg).f.k = 0
  · rw [if_neg (fun h => h h1)]
    by_cases h2 : band (sgl 16 xs root pg).b want = 0
    · rw [if_pos h2]
      exact ⟨fun h => absurd h (show ¬ ((2 : Int) = 0) by decide), fun h => absurd h2 h.2.1⟩
    · rw [if_neg h2]
      unfold outF
      dsimp only
      by_cases h3 : ((16 : Nat) : Int) ≤ (sgl 16 xs root pg).a
      · rw [if_pos h3]
        exact ⟨fun h => absurd h (show ¬ ((3 : Int) = 0) by decide), fun h => by have := h.2.2; omega⟩
      · rw [if_neg h3]
        exact ⟨fun _ => ⟨h1, h2, by omega⟩, fun _ => rfl⟩
  · rw [if_pos h1]
    exact ⟨fun h => absurd h h1, fun h => absurd h.1 h1⟩
theorem fnd2_a {xs : List Int} {root st pg want : Int} (h : (fnd2 (some root) 16 xs st pg want).k = 0) : (fnd2 (some root) 16 xs st pg want).a = (sgl 16 xs root pg).a := by
  obtain ⟨h1, h2, h3⟩ := (fnd2_0 (n := 16)).1 h
  rw [fnd2_s, if_neg (fun h => h h1), if_neg h2]
  unfold outF
  dsimp only
  rw [if_neg (by show ¬ ((16 : Nat) : Int) ≤ (sgl 16 xs root pg).a; omega)]
/-- It goes through: where, and what is left. -/
theorem dma_may {s : Js} (h : Ck s) {st ad : Int} {wr : Bool} {root : Int} (hm : mayP s st ad wr root) (b : Int) :
    dmaE s st ad wr = 0 ∧ (dmaJ s st ad wr b).X = (if wr = true then s.X.set ((sgl 16 s.X root (ad / 64)).a * 64 + ad % 64).toNat b else s.X) ∧
      dmaV s st ad wr b = (if wr = true then b else gt s.X ((sgl 16 s.X root (ad / 64)).a * 64 + ad % 64).toNat) := by
  obtain ⟨h1, h2, h3, h4⟩ := hm
  obtain ⟨a1, k1⟩ := found_eq h st ad wr
  rw [h3] at a1 k1
  have hk := (fnd2_0 (n := 16) (xs := s.X) (root := root) (st := st) (pg := ad / 64) (want := wn wr)).2 h4
  rw [fnd2_a hk] at a1
  rw [hk] at k1
  refine ⟨?_, ?_, ?_⟩
  · unfold dmaE; rw [if_pos h1, if_pos h2, if_pos k1]
  · unfold dmaJ; rw [if_pos ⟨h1, h2⟩, if_pos k1, a1]
  · unfold dmaV; rw [if_pos ⟨h1, h2⟩, if_pos k1, a1]
/-- It does not: no byte is another one. -/
theorem dma_not {s : Js} (h : Ck s) {st ad : Int} {wr : Bool} (hm : ∀ root, ¬ mayP s st ad wr root) (b : Int) : ¬ dmaE s st ad wr = 0 ∧ (dmaJ s st ad wr b).X = s.X := by
  obtain ⟨a1, k1⟩ := found_eq h st ad wr
  by_cases h1 : isS st
  · by_cases h2 : 0 ≤ ad ∧ ad ≤ 65535
    · have hk : ¬ (dmaG s st ad wr).k = 0 := by
        intro hk
        rw [hk] at k1
        cases hg : mget s.R st with
        | none => rw [hg, fnd2_n] at k1; exact absurd k1.symm (show ¬ ((1 : Int) = 0) by decide)
        | some root =>
          rw [hg] at k1
          exact hm root ⟨h1, h2, hg, (fnd2_0 (n := 16)).1 k1.symm⟩
      refine ⟨?_, ?_⟩
      · unfold dmaE; rw [if_pos h1, if_pos h2, if_neg hk]; decide
      · unfold dmaJ; rw [if_pos ⟨h1, h2⟩, if_neg hk]
    · refine ⟨?_, ?_⟩
      · unfold dmaE; rw [if_pos h1, if_neg h2]; decide
      · unfold dmaJ; rw [if_neg (fun hh => h2 hh.2)]
  · refine ⟨?_, ?_⟩
    · unfold dmaE; rw [if_neg h1]; decide
    · unfold dmaJ; rw [if_neg (fun hh => h1 hh.1)]
/-! frames as the tail of a list of blocks -/
def tailB (X : List Int) (bs : List Nat) : Hs := (List.range bs.length).map (fun k => frE (bs.getD k 0) (frm X k))
theorem tailB_len (X : List Int) (bs : List Nat) : (tailB X bs).length = bs.length := by simp [tailB]
theorem tailB_step (X : List Int) (bs : List Nat) (b : Nat) : tailB X (bs ++ [b]) = tailB X bs ++ [frE b (frm X bs.length)] := by
  unfold tailB
  rw [List.length_append, List.length_singleton, List.range_succ, List.map_append, List.map_singleton]
  congr 1
  · refine List.map_congr_left (fun k hk => ?_)
    have hk := List.mem_range.1 hk
    rw [List.getD_eq_getElem?_getD, List.getD_eq_getElem?_getD, List.getElem?_append_left hk]
  · rw [List.getD_eq_getElem?_getD, List.getElem?_append_right (Nat.le_refl _), Nat.sub_self]
    rfl
theorem tailB_at (X : List Int) (bs : List Nat) {k : Nat} (hk : k < bs.length) : (tailB X bs)[k]? = some (frE (bs.getD k 0) (frm X k)) := by
  unfold tailB
  rw [List.getElem?_map, List.getElem?_range hk]
  rfl
abbrev slB (b : Nat) : Value := .slice (some ⟨b, 0, none⟩) 64 64
def befC (bs : List Nat) : List Value := bs.map slB ++ List.replicate (16 - bs.length) (.slice none 0 0)
theorem befC_set (bs : List Nat) (b : Nat) (h : bs.length < 16) : (befC bs).set bs.length (slB b) = befC (bs ++ [b]) := by
  unfold befC
  rw [List.set_append_right _ _ (by simp), List.length_map, Nat.sub_self, List.map_append, List.length_append, List.length_singleton]
  have e : 16 - bs.length = (16 - (bs.length + 1)) + 1 := by omega
  rw [e, List.replicate_succ, List.set_cons_zero, List.append_assoc]
  rfl
theorem befC_at (bs : List Nat) {k : Nat} (hk : k < bs.length) : (befC bs)[k]? = some (slB (bs.getD k 0)) := by
  unfold befC
  rw [List.getElem?_append_left (by simpa using hk), List.getElem?_map, List.getElem?_eq_getElem hk, List.getD_eq_getElem?_getD, List.getElem?_eq_getElem hk]
  rfl
end Go.Proofs.Ytggbhokhibfdmaa
