/- What is handed to the laws of walks: entries that are laid, and spaces. Conditions: none. -/
import Derived.Test.YtbohpchmofkllaaWalkL
set_option linter.unusedVariables false
set_option linter.unusedSimpArgs false
set_option maxRecDepth 10000
set_option maxHeartbeats 8000000
namespace Go.Proofs.Ytbohpchmofkllaa
open Vc Mem
theorem rd_put {W : World} {n : Nat} {cs : List Value} (h : Rd Try.prog W n 40 cs) : ∃ u : Pu, cs = puV u := by
  obtain ⟨hl, m, hf⟩ := rd_struct h Try.underlying40
  have hc : Try.prog.cellsOf 40 = 8 := by kernel_rfl
  have hi : Try.prog.cellsOf 3 = 1 := by kernel_rfl
  have hb : Try.prog.cellsOf 4 = 1 := by kernel_rfl
  have hu : Try.prog.cellsOf 38 = 1 := by kernel_rfl
  have he : Try.prog.cellsOf 37 = 4 := by kernel_rfl
  rw [hc] at hl
  obtain ⟨c0, c1, c2, c3, c4, c5, c6, c7, rfl⟩ : ∃ a b c d e f g i, cs = [a, b, c, d, e, f, g, i] := by
    match cs, hl with
    | [a, b, c, d, e, f, g, i], _ => exact ⟨a, b, c, d, e, f, g, i, rfl⟩
  obtain ⟨t, h0, -⟩ := rd_int (hf 0 _ rfl) Try.underlying3
  obtain ⟨i, h1, -⟩ := rd_int (hf 1 _ rfl) Try.underlying3
  have h2 := hf 2 _ rfl
  obtain ⟨raw, h3⟩ := rd_bool (hf 3 _ rfl) Try.underlying4
  obtain ⟨v, h4, hv⟩ := rd_int (hf 4 _ rfl) Try.underlying38
  simp [hi] at h0 h1
  simp [hb] at h3
  simp [hu] at h4
  simp [he] at h2
  obtain ⟨ev, el, er, ef, h5, -⟩ := rd_entry h2
  simp at h5
  obtain ⟨rfl, rfl, rfl, rfl⟩ := h5
  exact ⟨⟨t, i, ⟨ev, el, er, ef⟩, raw, v, wf_u16 hv⟩, by rw [h0, h1, h3, h4]; rfl⟩
theorem rd_puts {W : World} {n : Nat} {a : Option Addr} {len cap : Nat} (h : Rd Try.prog W n 22 (Value.slice a len cap).cells.toList) : ∃ us : List Pu, us.length = len ∧ Arr W 8 puV a us := by
  obtain ⟨acts, h1, h2, h3, h4⟩ := rd_arr h Try.underlying22 (by kernel_rfl) (fun k es hl hR => rd_put hR)
  exact ⟨acts, h1, h4⟩
theorem rd_space {W : World} {n : Nat} {a : Array Value} (h : Rd Try.prog W n 24 (Value.agg a).cells.toList) : ∃ s : Sp, a = (spV s).toArray := by
  obtain ⟨hl, m, hf⟩ := rd_struct h Try.underlying24
  have hc : Try.prog.cellsOf 24 = 4 := by kernel_rfl
  have hi : Try.prog.cellsOf 3 = 1 := by kernel_rfl
  rw [hc] at hl
  obtain ⟨c0, c1, c2, c3, hcs⟩ : ∃ p q r s, (Value.agg a).cells.toList = [p, q, r, s] := by
    match (Value.agg a).cells.toList, hl with
    | [p, q, r, s], _ => exact ⟨p, q, r, s, rfl⟩
  rw [hcs] at hf
  obtain ⟨v0, h0, -⟩ := rd_int (hf 0 _ rfl) Try.underlying3
  obtain ⟨v1, h1, -⟩ := rd_int (hf 1 _ rfl) Try.underlying3
  obtain ⟨v2, h2, -⟩ := rd_int (hf 2 _ rfl) Try.underlying3
  obtain ⟨v3, h3, -⟩ := rd_int (hf 3 _ rfl) Try.underlying3
  simp [hi] at h0 h1 h2 h3
  refine ⟨⟨v0, v1, v2, v3⟩, ?_⟩
  apply Array.ext'
  show (Value.agg a).cells.toList = _
  rw [hcs, h0, h1, h2, h3]
  rfl
theorem neB_fa (f : Fa) : (!eqB (faV f) (faV f)) = false := by
  have : eqB (faV f) (faV f) = true := eqB_true.2 ⟨rfl, rfl, rfl, rfl, rfl, trivial⟩
  rw [this]; rfl
end Go.Proofs.Ytbohpchmofkllaa
