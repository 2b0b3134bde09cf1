/- 'viceroylaw01.RamPlays' answers true at every size and every list of acts. Conditions: none beside the row's own. -/
import Derived.Test.YtfamidjdhahfiaaRows
import Derived.Test.YtfamidjdhahfiaaLawRamBack
set_option linter.unusedVariables false
set_option linter.unusedSimpArgs false
set_option linter.unusedSectionVars false
set_option maxRecDepth 10000
set_option maxHeartbeats 4000000
namespace Go.Proofs.Ytfamidjdhahfiaa
open Vc Mem
/-- An act that was handed in: its bytes stand in memory. -/
structure RAw (W : World) where
  x : RAc
  bs : List Int
  hb : bs.length = x.bl
  hm : x.bl ≤ reachBytes
  ha : Arr W 1 u8V x.b bs
  by_ : By bs
  hw : 0 ≤ x.w ∧ x.w ≤ 4294967295
def rawV {W : World} (x : RAw W) : List Value := racV x.x
theorem rd_bytes {W : World} {n : Nat} {a : Option Addr} {len cap : Nat} (h : Rd Try.prog W n 33 (Value.slice a len cap).cells.toList) : ∃ bs : List Int, bs.length = len ∧ len ≤ cap ∧ len ≤ reachBytes ∧ Arr W 1 u8V a bs ∧ By bs := by
  obtain ⟨ls, h1, h2, h3, h4⟩ := rd_arr (α := { x : Int // 0 ≤ x ∧ x ≤ 255 }) (m := 1) (g := fun x => u8V x.1) h Try.underlying33 (by kernel_rfl) (fun k es hl hR => by
    obtain ⟨x, hx, hw⟩ := rd_int hR Try.underlying5
    exact ⟨⟨x, wf_u8 hw⟩, hx⟩)
  have hb : Try.prog.bytesOf 5 = 1 := by kernel_rfl
  rw [hb, Nat.mul_one] at h3
  refine ⟨ls.map (·.1), by simpa using h1, h2, h3, ?_, ?_⟩
  · intro j x hj
    rw [List.getElem?_map] at hj
    obtain ⟨y, hy, rfl⟩ := Option.map_eq_some_iff.1 hj
    exact h4 j y hy
  · intro j x hj
    rw [List.getElem?_map] at hj
    obtain ⟨y, hy, rfl⟩ := Option.map_eq_some_iff.1 hj
    exact y.2
theorem rd_raw {W : World} {n : Nat} {cs : List Value} (h : Rd Try.prog W n 35 cs) : ∃ x : RAw W, cs = rawV x := by
  obtain ⟨hl, m, hf⟩ := rd_struct h Try.underlying35
  have hc : Try.prog.cellsOf 35 = 5 := by kernel_rfl
  have hi : Try.prog.cellsOf 3 = 1 := by kernel_rfl
  have hu : Try.prog.cellsOf 23 = 1 := by kernel_rfl
  have hs : Try.prog.cellsOf 33 = 1 := by kernel_rfl
  rw [hc] at hl
  obtain ⟨c0, c1, c2, c3, c4, rfl⟩ : ∃ a b c d e, cs = [a, b, c, d, e] := by
    match cs, hl with
    | [a, b, c, d, e], _ => exact ⟨a, b, c, d, e, rfl⟩
  obtain ⟨d, h0, -⟩ := rd_int (hf 0 _ rfl) Try.underlying3
  obtain ⟨a, h1, -⟩ := rd_int (hf 1 _ rfl) Try.underlying3
  obtain ⟨s, h2, -⟩ := rd_int (hf 2 _ rfl) Try.underlying3
  obtain ⟨v, h3, hv⟩ := rd_int (hf 3 _ rfl) Try.underlying23
  have h4 := hf 4 _ rfl
  simp [hi] at h0 h1 h2
  simp [hu] at h3
  simp [hs] at h4
  obtain ⟨b, bl, bc, rfl⟩ : ∃ b bl bc, c4 = .slice b bl bc := by
    rcases rd_slice h4 Try.underlying33 with h5 | ⟨ad, len, cap, k, h5, _⟩
    · simp at h5; exact ⟨_, _, _, h5⟩
    · simp at h5; exact ⟨_, _, _, h5⟩
  obtain ⟨bs, g1, g2, g3, g4, g5⟩ := rd_bytes (a := b) (len := bl) (cap := bc) h4
  exact ⟨⟨⟨d, a, s, v, b, bl, bc⟩, bs, g1, g3, g4, g5, wf_u32 hv⟩, by rw [h0, h1, h2, h3]; rfl⟩
theorem rd_raws {W : World} {n : Nat} {a : Option Addr} {len cap : Nat} (h : Rd Try.prog W n 22 (Value.slice a len cap).cells.toList) : ∃ acts : List (RAw W), acts.length = len ∧ len ≤ cap ∧ True ∧ Arr W 5 rawV a acts := by
  obtain ⟨acts, h1, h2, h3, h4⟩ := rd_arr h Try.underlying22 (by kernel_rfl) (fun k es hl hR => rd_raw hR)
  exact ⟨acts, h1, h2, trivial, h4⟩
theorem reach_le {x : Nat} (h : x ≤ reachBytes) : x ≤ 140737488355328 := Nat.le_trans h (by decide)
theorem rdoes_raw (p F q B n : Nat) (hn : n ≤ 1024) (xs : List Int) (hx0 : By xs) (hl : xs.length = n * 64) {W : World} (x : RAw W) (w : World) (ha : ArrF w [p, F, q, B] 1 u8V x.x.b x.bs) (hw : Own w [ramE p F n, frE F xs, refE q B n, byE B xs]) :
    Con Try.prog 13 [.pointer (some ⟨p, 0, none⟩), .pointer (some ⟨q, 0, none⟩), .agg (rawV x).toArray] w [ramE p F n, frE F xs, refE q B n, byE B xs]
      (fun y L' => y = .bool true ∧ L' = [ramE p F n, frE F (rdoX n xs x.x x.bs), refE q B n, byE B (rdoX n xs x.x x.bs)]) :=
  rdoes_con p F q B n hn xs hx0 hl x.x x.hw x.bs x.hb (reach_le x.hm) w ha hw
end Go.Proofs.Ytfamidjdhahfiaa
