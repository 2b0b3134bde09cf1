/- 'PteWords', 'PteBack', 'PteAll' of chapter 2 answer true. Conditions: none beside the rows' own. -/
import Derived.Test.YtggbhokhibfdmaaRows
import Derived.Test.YtggbhokhibfdmaaAwake2
import Derived.Test.YtggbhokhibfdmaaFrame
set_option linter.unusedVariables false
set_option linter.unusedSimpArgs false
set_option maxRecDepth 10000
set_option maxHeartbeats 4000000
namespace Go.Proofs.Ytggbhokhibfdmaa
open Vc
def encW (v l : Bool) (r f : Int) : Int := if rightP v l r f then encI v l r f else 0
def encE (v l : Bool) (r f : Int) : Int := if rightP v l r f then 0 else 20
theorem encV_eq (v l : Bool) (r f : Int) : encV v l r f = .tuple #[.int .u16 (encW v l r f), .int .i64 (encE v l r f)] := by
  unfold encV encW encE
  split <;> rfl
def dcV (n : Int) : Bool := decide (wordP n) && dv n
def dcL (n : Int) : Bool := decide (wordP n) && dl n
def dcR (n : Int) : Int := if wordP n then n / 4 % 8 else 0
def dcF (n : Int) : Int := if wordP n then n / 64 else 0
def dcE (n : Int) : Int := if wordP n then 0 else 20
theorem decV_eq (n : Int) : decV n = .tuple #[ent (dcV n) (dcL n) (dcR n) (dcF n), .int .i64 (dcE n)] := by
  unfold decV dcV dcL dcR dcF dcE
  by_cases h : wordP n <;> simp [h]
theorem dec_enc {v l : Bool} {r f : Int} (h : rightP v l r f) : decV (encI v l r f) = .tuple #[ent v l r f, .int .i64 0] := by
  have hb := right_bounds h
  have e1 : encI v l r f / 32 % 2 = 0 := by unfold encI; split <;> split <;> omega
  have e2 : dv (encI v l r f) = v := by unfold dv encI; cases v <;> cases l <;> simp <;> omega
  have e3 : dl (encI v l r f) = l := by unfold dl encI; cases v <;> cases l <;> simp <;> omega
  have e4 : encI v l r f / 4 % 8 = r := by unfold encI; split <;> split <;> omega
  have e5 : encI v l r f / 64 = f := by unfold encI; split <;> split <;> omega
  have hw : wordP (encI v l r f) := ⟨e1, by rw [e2, e3, e4, e5]; exact h⟩
  unfold decV
  rw [if_pos hw, e2, e3, e4, e5]
theorem encI_range {v l : Bool} {r f : Int} (h : rightP v l r f) : 0 ≤ encI v l r f ∧ encI v l r f ≤ 65535 := by
  have hb := right_bounds h
  unfold encI
  split <;> split <;> omega
theorem enc_inj {v l : Bool} {r f : Int} (h : rightP v l r f) {v' l' : Bool} {r' f' : Int} (h' : rightP v' l' r' f') : encI v l r f = encI v' l' r' f' ↔ v = v' ∧ l = l' ∧ r = r' ∧ f = f' := by
  refine ⟨fun he => ?_, fun ⟨a, b, c, d⟩ => by rw [a, b, c, d]⟩
  have h1 := dec_enc h
  rw [he, dec_enc h'] at h1
  simp at h1
  exact ⟨h1.1.symm, h1.2.1.symm, h1.2.2.1.symm, h1.2.2.2.symm⟩
theorem rd_entry {W : World} {n : Nat} {cs : List Value} (h : Rd Try.prog W n 47 cs) : ∃ (v l : Bool) (r f : Int), cs = [.bool v, .bool l, .int .i64 r, .int .i64 f] ∧ (Lit.int .i64 r).wf = true ∧ (Lit.int .i64 f).wf = true := by
  obtain ⟨hl, m, hf⟩ := rd_struct h Try.underlying47
  have hc : Try.prog.cellsOf 47 = 4 := by kernel_rfl
  have hb : Try.prog.cellsOf 4 = 1 := by kernel_rfl
  have hi : Try.prog.cellsOf 3 = 1 := by kernel_rfl
  rw [hc] at hl
  obtain ⟨c0, c1, c2, c3, rfl⟩ : ∃ a b c d, cs = [a, b, c, d] := by
    match cs, hl with
    | [a, b, c, d], _ => exact ⟨a, b, c, d, rfl⟩
  obtain ⟨v, h0⟩ := rd_bool (hf 0 _ rfl) Try.underlying4
  obtain ⟨l, h1⟩ := rd_bool (hf 1 _ rfl) Try.underlying4
  obtain ⟨r, h2, w2⟩ := rd_int (hf 2 _ rfl) Try.underlying3
  obtain ⟨f, h3, w3⟩ := rd_int (hf 3 _ rfl) Try.underlying3
  simp [hb] at h0 h1
  simp [hi] at h2 h3
  exact ⟨v, l, r, f, by rw [h0, h1, h2, h3], w2, w3⟩
end Go.Proofs.Ytggbhokhibfdmaa
