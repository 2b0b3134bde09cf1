/- 'viceroylaw03.TlbPlays' answers true at every list of acts. Conditions: none beside the row's own. -/
import Derived.Test.YtfamidjdhahfiaaRows
import Derived.Test.YtfamidjdhahfiaaTlb5
import Derived.Test.YtfamidjdhahfiaaLawTlbLines
set_option linter.unusedVariables false
set_option linter.unusedSimpArgs false
set_option maxRecDepth 10000
set_option maxHeartbeats 4000000
namespace Go.Proofs.Ytfamidjdhahfiaa
open Vc
def mark (l : Ln) : Ln := ⟨l.v, l.a, l.p, -1, l.r⟩
def fm (ls : List Ln) (i : Nat) : List Ln := (ls.take i).map mark ++ ls.drop i
theorem fm_length {ls : List Ln} {i : Nat} (h : i ≤ ls.length) : (fm ls i).length = ls.length := by simp [fm]; omega
theorem fm_at {ls : List Ln} {i : Nat} (h : i < ls.length) : (fm ls i)[i]? = some ls[i] := by
  rw [fm, List.getElem?_append_right (by simp; omega)]
  simp [Nat.min_eq_left (Nat.le_of_lt h), List.getElem?_eq_getElem h]
theorem fm_set {ls : List Ln} {i : Nat} (h : i < ls.length) : (fm ls i).set i (mark ls[i]) = fm ls (i + 1) := by
  simp only [fm]
  rw [List.take_succ_eq_append_getElem h, List.map_append, List.map_cons, List.map_nil, List.drop_eq_getElem_cons h]
  rw [List.set_append_right _ _ (by simp; omega)]
  rw [List.length_map, List.length_take, Nat.min_eq_left (Nat.le_of_lt h), Nat.sub_self, List.set_cons_zero, List.append_assoc]
  rfl
theorem eqB_ln (x : Ln) : (!eqB (lnV x) (lnV x)) = false := by
  have : eqB (lnV x) (lnV x) = true := eqB_true.2 ⟨rfl, rfl, rfl, rfl, rfl, trivial⟩
  rw [this]; rfl
theorem TI0 : TI S0 where
  len := rfl
  ok := fun l hl => .inl (List.eq_of_mem_replicate hl)
  one := fun i j x y hx hy h0 hs => absurd (List.eq_of_mem_replicate (List.mem_iff_getElem?.2 ⟨i, hx⟩)) h0
/-- What a play has come to. -/
structure Pl where
  i : Nat
  ls : List Ln
  f : Int
  m : Int
theorem rd_act {W : World} {n : Nat} {cs : List Value} (h : Rd Try.prog W n 55 cs) : ∃ x : Ac, cs = acV x := by
  obtain ⟨hl, m, hf⟩ := rd_struct h Try.underlying55
  have hc : Try.prog.cellsOf 55 = 10 := by kernel_rfl
  have hi : Try.prog.cellsOf 3 = 1 := by kernel_rfl
  have h5 : Try.prog.cellsOf 49 = 5 := by kernel_rfl
  rw [hc] at hl
  obtain ⟨c0, c1, c2, c3, c4, c5, c6, c7, c8, c9, rfl⟩ : ∃ a b c d e f g h i j, cs = [a, b, c, d, e, f, g, h, i, j] := by
    match cs, hl with
    | [a, b, c, d, e, f, g, h, i, j], _ => exact ⟨a, b, c, d, e, f, g, h, i, j, rfl⟩
  obtain ⟨d, h0, -⟩ := rd_int (hf 0 _ rfl) Try.underlying3
  obtain ⟨at_, h1, -⟩ := rd_int (hf 1 _ rfl) Try.underlying3
  obtain ⟨l, h2, -⟩ := rd_line (hf 2 _ rfl)
  obtain ⟨v, h3, -⟩ := rd_int (hf 3 _ rfl) Try.underlying3
  obtain ⟨a, h4, -⟩ := rd_int (hf 4 _ rfl) Try.underlying3
  obtain ⟨p, h5', -⟩ := rd_int (hf 5 _ rfl) Try.underlying3
  simp [hi] at h0 h1 h3 h4 h5'
  simp [h5, lnV] at h2
  obtain ⟨e2, e3, e4, e5, e6⟩ := h2
  exact ⟨⟨d, at_, l, v, a, p⟩, by rw [h0, h1, h3, h4, h5', e2, e3, e4, e5, e6]; rfl⟩
theorem rd_acts {W : World} {n : Nat} {a : Option Addr} {len cap : Nat} (h : Rd Try.prog W n 44 (Value.slice a len cap).cells.toList) : ∃ acts : List Ac, acts.length = len ∧ len ≤ cap ∧ True ∧ Arr W 10 acV a acts := by
  obtain ⟨acts, h1, h2, h3, h4⟩ := rd_arr h Try.underlying44 (by kernel_rfl) (fun k es hl hR => rd_act hR)
  exact ⟨acts, h1, h2, trivial, h4⟩
end Go.Proofs.Ytfamidjdhahfiaa
