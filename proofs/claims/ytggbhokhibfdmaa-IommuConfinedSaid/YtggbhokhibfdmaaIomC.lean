/- What is remembered is what the tables say; what others do is not seen. Conditions: none. -/
import Derived.Test.YtggbhokhibfdmaaIomP
set_option linter.unusedVariables false
set_option linter.unusedSimpArgs false
set_option linter.unusedSectionVars false
set_option maxRecDepth 10000
set_option maxHeartbeats 4000000
namespace Go.Proofs.Ytggbhokhibfdmaa
open Vc Mem
/-- Each entry of the buffer is what its stream's table says. -/
def Ck (s : Js) : Prop := ∀ x, x ∈ s.B → ∃ root, mget s.R x.v.s = some root ∧ (sgl 16 s.X root x.v.p).f.k = 0 ∧ (sgl 16 s.X root x.v.p).a = x.v.f ∧ (sgl 16 s.X root x.v.p).b = x.v.r
theorem outF_new (f : Fd) (o : Option Fd) : (outF 16 f o).new = o := by unfold outF; split <;> rfl
theorem outF_ak (f f' : Fd) (o o' : Option Fd) (h : f.f = f'.f) : (outF 16 f o).a = (outF 16 f' o').a ∧ (outF 16 f o).k = (outF 16 f' o').k := by
  unfold outF
  rw [h]
  split <;> exact ⟨rfl, rfl⟩
/-- What an access finds is what the tables say. -/
theorem found_eq {s : Js} (h : Ck s) (st ad : Int) (wr : Bool) : (dmaG s st ad wr).a = (fnd2 (mget s.R st) 16 s.X st (ad / 64) (wn wr)).a ∧ (dmaG s st ad wr).k = (fnd2 (mget s.R st) 16 s.X st (ad / 64) (wn wr)).k := by
  unfold dmaG
  cases hg : mget s.B (ad / 64 % 8) with
  | none => exact ⟨rfl, rfl⟩
  | some f =>
    rw [fnd_s]
    by_cases hc : f.s = st ∧ f.p = ad / 64 ∧ ¬ band f.r (wn wr) = 0
    · rw [if_pos hc]
      obtain ⟨x, hx, -, h2⟩ := mget_some hg
      obtain ⟨root, r1, r2, r3, r4⟩ := h x hx
      rw [h2] at r1 r2 r3 r4
      rw [hc.1] at r1
      rw [hc.2.1] at r2 r3 r4
      rw [r1, fnd2_s, if_neg (fun hn => hn r2), if_neg (by rw [r4]; exact hc.2.2)]
      exact outF_ak _ _ _ _ r3.symm
    · rw [if_neg hc]
      exact ⟨rfl, rfl⟩
/-- What is remembered anew is what the tables say. -/
theorem new_eq {s : Js} (st ad : Int) (wr : Bool) {f : Fd} (hn : (dmaG s st ad wr).new = some f) : f.s = st ∧ ∃ root, mget s.R st = some root ∧ (sgl 16 s.X root f.p).f.k = 0 ∧ (sgl 16 s.X root f.p).a = f.f ∧ (sgl 16 s.X root f.p).b = f.r := by
  have h2 : ∀ ro, (fnd2 ro 16 s.X st (ad / 64) (wn wr)).new = some f → f.s = st ∧ ∃ root, ro = some root ∧ (sgl 16 s.X root f.p).f.k = 0 ∧ (sgl 16 s.X root f.p).a = f.f ∧ (sgl 16 s.X root f.p).b = f.r := by
    intro ro
    cases ro with
    | none => intro h1; simp [fnd2_n] at h1
    | some root =>
      rw [fnd2_s]
      split
      · intro h1; simp at h1
      · rename_i hk
        split
        · intro h1; simp at h1
        · rw [outF_new]
          intro h1
          simp only [Option.some.injEq] at h1
          subst h1
          exact ⟨rfl, root, rfl, Classical.not_not.1 hk, rfl, rfl⟩
  unfold dmaG at hn
  cases hg : mget s.B (ad / 64 % 8) with
  | none => rw [hg] at hn; exact h2 _ hn
  | some f' =>
    rw [hg, fnd_s] at hn
    split at hn
    · rw [outF_new] at hn; simp at hn
    · exact h2 _ hn
/-- An act that writes no byte: what is remembered stays what the tables say, and others' tables stay. -/
theorem act_keep {s : Js} (h : JI s) (hC : Ck s) (a : Ac) (h8 : ¬ a.d = 8) (h3 : a.d = 3 → a.w = false) : Ck (actJ s a) ∧ (actJ s a).X = s.X ∧ ∀ k, ¬ k = a.st → mget (actJ s a).R k = mget s.R k := by
  unfold actJ
  split
  · unfold attR attC attB
    by_cases hc : isS a.st ∧ 0 ≤ a.n ∧ a.n ≤ 1023
    · simp only [if_pos hc]
      refine ⟨fun x hx => ?_, (by first | rfl | trivial), fun k hk => by show mget (mset _ _ _ _) _ = _; rw [mget_mset, if_neg hk]⟩
      obtain ⟨hx1, hx2⟩ := List.mem_filter.1 hx
      obtain ⟨root, r1, r2⟩ := hC x hx1
      refine ⟨root, ?_, r2⟩
      have : ¬ x.v.s = a.st := by simpa [prS] using hx2
      show mget (mset _ _ _ _) _ = _
      rw [mget_mset, if_neg this, r1]
    · simp only [if_neg hc]
      exact ⟨hC, (by first | rfl | trivial), fun k hk => (by first | rfl | trivial)⟩
  · split
    · unfold detR detB
      by_cases hc : isS a.st
      · simp only [if_pos hc]
        refine ⟨fun x hx => ?_, (by first | rfl | trivial), fun k hk => by show mget (mdel _ _) _ = _; rw [mget_mdel h.kR.1, if_neg hk]⟩
        obtain ⟨hx1, hx2⟩ := List.mem_filter.1 hx
        obtain ⟨root, r1, r2⟩ := hC x hx1
        refine ⟨root, ?_, r2⟩
        have : ¬ x.v.s = a.st := by simpa [prS] using hx2
        show mget (mdel _ _) _ = _
        rw [mget_mdel h.kR.1, if_neg this, r1]
      · simp only [if_neg hc]
        exact ⟨hC, (by first | rfl | trivial), fun k hk => (by first | rfl | trivial)⟩
    · split
      · rename_i hd
        have hw := h3 hd
        have key : Ck { s with B := newB (dmaG s a.st a.n a.w).new (a.n / 64 % 8) s.B s.bk, bk := newC (dmaG s a.st a.n a.w).new (a.n / 64 % 8) s.B s.bk } := by
          cases hn : (dmaG s a.st a.n a.w).new with
          | none => exact hC
          | some f =>
            obtain ⟨n1, root, n2⟩ := new_eq a.st a.n a.w hn
            intro x hx
            rcases mset_keys _ _ _ _ x hx with ⟨-, e⟩ | hx
            · rw [e, n1]; exact ⟨root, n2⟩
            · exact hC x hx
        unfold dmaJ
        split
        · split
          · rw [hw] at key ⊢
            exact ⟨key, (by first | rfl | trivial), fun k hk => (by first | rfl | trivial)⟩
          · exact ⟨key, (by first | rfl | trivial), fun k hk => (by first | rfl | trivial)⟩
        · exact ⟨hC, (by first | rfl | trivial), fun k hk => (by first | rfl | trivial)⟩
      · split
        · exact ⟨fun x hx => hC x (List.mem_filter.1 hx).1, (by first | rfl | trivial), fun k hk => (by first | rfl | trivial)⟩
        · split
          · exact ⟨fun x hx => hC x (List.mem_filter.1 hx).1, (by first | rfl | trivial), fun k hk => (by first | rfl | trivial)⟩
          · split
            · unfold eviB
              by_cases hc : 0 ≤ a.n ∧ a.n ≤ 7
              · simp only [if_pos hc]
                exact ⟨mdel_in h.kB.1 hC, (by first | rfl | trivial), fun k hk => (by first | rfl | trivial)⟩
              · simp only [if_neg hc]
                exact ⟨hC, (by first | rfl | trivial), fun k hk => (by first | rfl | trivial)⟩
            · split
              · exact ⟨hC, (by first | rfl | trivial), fun k hk => (by first | rfl | trivial)⟩
              · first | rw [if_neg h8] | skip
                exact ⟨hC, (by first | rfl | trivial), fun k hk => (by first | rfl | trivial)⟩
/-- A reading is answered by the stream's table and the bytes. -/
theorem ans_eq {s s' : Js} (h : Ck s) (h' : Ck s') (st ad : Int) (hR : mget s'.R st = mget s.R st) (hX : s'.X = s.X) : dmaE s' st ad false = dmaE s st ad false ∧ dmaV s' st ad false 0 = dmaV s st ad false 0 := by
  obtain ⟨a1, k1⟩ := found_eq h st ad false
  obtain ⟨a2, k2⟩ := found_eq h' st ad false
  rw [hR, hX] at a2 k2
  unfold dmaE dmaV
  rw [a1, a2, k1, k2, hX]
  exact ⟨rfl, rfl⟩
theorem others {s : Js} (h : JI s) (hC : Ck s) (a : Ac) (h8 : ¬ a.d = 8) (h3 : a.d = 3 → a.w = false) (st ad : Int) (hst : ¬ a.st = st) : dmaE (actJ s a) st ad false = dmaE s st ad false ∧ dmaV (actJ s a) st ad false 0 = dmaV s st ad false 0 := by
  obtain ⟨c1, c2, c3⟩ := act_keep h hC a h8 h3
  exact ans_eq hC c1 st ad (c3 st (fun e => hst e.symm)) c2
end Go.Proofs.Ytggbhokhibfdmaa
