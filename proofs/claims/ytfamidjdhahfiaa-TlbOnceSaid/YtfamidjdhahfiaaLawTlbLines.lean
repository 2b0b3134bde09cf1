/- 'viceroylaw03.TlbLines' answers true at every line and entry. Conditions: none beside the row's own. -/
import Derived.Test.YtfamidjdhahfiaaRows
import Derived.Test.YtfamidjdhahfiaaAwake3
import Derived.Test.YtfamidjdhahfiaaFrame
import Derived.ProofKit
import Derived.OpenShut
set_option linter.unusedVariables false
set_option linter.unusedSimpArgs false
set_option maxRecDepth 10000
set_option maxHeartbeats 4000000
namespace Go.Proofs.Ytfamidjdhahfiaa
open Vc
theorem flS0 (pr : Ln → Bool) : flL pr S0 = S0 := by
  simp [flL, S0]
theorem find_set0 (x : Ln) (h : lnRight x) (i : Nat) (hi : i < 8) : (S0.set i x).find? (mt x.v x.a x.p) = some x := by
  have h0 : mt x.v x.a x.p ln0 = false := by simp [mt]
  have h1 : mt x.v x.a x.p x = true := by
    simp only [mt, decide_eq_true_eq, and_self, and_true]
    intro e
    subst e
    exact absurd h (by decide)
  obtain rfl | rfl | rfl | rfl | rfl | rfl | rfl | rfl : i = 0 ∨ i = 1 ∨ i = 2 ∨ i = 3 ∨ i = 4 ∨ i = 5 ∨ i = 6 ∨ i = 7 := by omega
  all_goals simp [S0, List.replicate, List.find?, h0, h1]
theorem find_none0 (v a p : Int) : S0.find? (mt v a p) = none := by
  have h0 : mt v a p ln0 = false := by simp [mt]
  simp [S0, List.find?, List.replicate, h0]
theorem rd_line {W : World} {n : Nat} {cs : List Value} (h : Rd Try.prog W n 49 cs) : ∃ l : Ln, cs = lnV l ∧ (Lit.int .i64 l.v).wf = true ∧ (Lit.int .i64 l.a).wf = true ∧ (Lit.int .i64 l.p).wf = true ∧ (Lit.int .i64 l.f).wf = true ∧ (Lit.int .i64 l.r).wf = true := by
  obtain ⟨hl, m, hf⟩ := rd_struct h Try.underlying49
  have hc : Try.prog.cellsOf 49 = 5 := by kernel_rfl
  have hi : Try.prog.cellsOf 3 = 1 := by kernel_rfl
  rw [hc] at hl
  obtain ⟨c0, c1, c2, c3, c4, rfl⟩ : ∃ a b c d e, cs = [a, b, c, d, e] := by
    match cs, hl with
    | [a, b, c, d, e], _ => exact ⟨a, b, c, d, e, rfl⟩
  obtain ⟨v, h0, w0⟩ := rd_int (hf 0 _ rfl) Try.underlying3
  obtain ⟨a, h1, w1⟩ := rd_int (hf 1 _ rfl) Try.underlying3
  obtain ⟨p, h2, w2⟩ := rd_int (hf 2 _ rfl) Try.underlying3
  obtain ⟨f, h3, w3⟩ := rd_int (hf 3 _ rfl) Try.underlying3
  obtain ⟨r, h4, w4⟩ := rd_int (hf 4 _ rfl) Try.underlying3
  simp [hi] at h0 h1 h2 h3 h4
  exact ⟨⟨v, a, p, f, r⟩, by rw [h0, h1, h2, h3, h4]; rfl, w0, w1, w2, w3, w4⟩
end Go.Proofs.Ytfamidjdhahfiaa
