/- What is written to a table is read again there, and nowhere else. Conditions: none. -/
import Derived.Test.YtggbhokhibfdmaaPteM
set_option linter.unusedVariables false
set_option linter.unusedSimpArgs false
namespace Go.Proofs.Ytggbhokhibfdmaa
open Vc Mem
theorem ld2 (xs : List Int) (a : Nat) : ldV xs a 2 = gt xs (a + 1) * 256 + gt xs a := by simp [ldV]
theorem word_st {n : Nat} {xs : List Int} (hl : xs.length = n * 64) {t i t' i' : Int} (h : wr n t i = 0) (h' : wr n t' i' = 0) {v : Int} (hv : 0 ≤ v ∧ v ≤ 65535) :
    ldV (stL xs (ea t i).toNat 2 v) (ea t' i').toNat 2 = if t = t' ∧ i = i' then v else ldV xs (ea t' i').toNat 2 := by
  have h1 := wr_0 h
  have h2 := wr_0 h'
  have e2 : (2 : Int).toNat = 2 := rfl
  have hr : (ea t i).toNat + (2 : Int).toNat ≤ xs.length := by unfold ea; omega
  rw [ld2, ld2, gt_st (.inr (.inl rfl)) hr, gt_st (.inr (.inl rfl)) hr]
  simp only [e2]
  by_cases hc : t = t' ∧ i = i'
  · obtain ⟨rfl, rfl⟩ := hc
    rw [if_pos (by omega), if_pos (by omega), if_pos ⟨rfl, rfl⟩]
    rw [show (ea t i).toNat + 1 - (ea t i).toNat = 1 by omega, Nat.sub_self]
    simp
    omega
  · rw [if_neg (by unfold ea; omega), if_neg (by unfold ea; omega), if_neg hc]
theorem dc_enc {x : Et} (h : rightP x.v x.l x.r x.f) : dcX (encI x.v x.l x.r x.f) = x ∧ dcE (encI x.v x.l x.r x.f) = 0 := by
  have h1 := (decV_et _).symm.trans (dec_enc h)
  have h2 : [etA (dcX (encI x.v x.l x.r x.f)), Value.int .i64 (dcE (encI x.v x.l x.r x.f))] = [ent x.v x.l x.r x.f, .int .i64 0] := by
    have := Value.tuple.inj h1
    exact congrArg Array.toList this
  injection h2 with h3 h4
  injection h4 with h5 _
  injection h5 with _ h6
  have h7 := congrArg Array.toList (Value.agg.inj h3)
  injection h7 with a1 h8
  injection h8 with a2 h9
  injection h9 with a3 h10
  injection h10 with a4 _
  injection a1 with a1
  injection a2 with a2
  injection a3 with _ a3
  injection a4 with _ a4
  refine ⟨?_, h6⟩
  cases x
  simp only [dcX] at a1 a2 a3 a4 ⊢
  rw [a1, a2, a3, a4]
theorem put_getX {n : Nat} {xs : List Int} (hl : xs.length = n * 64) (t i : Int) (x : Et) {t' i' : Int} (h' : wr n t' i' = 0) :
    getX n (putL n xs t i x) t' i' = if (wr n t i = 0 ∧ rightP x.v x.l x.r x.f) ∧ t = t' ∧ i = i' then x else getX n xs t' i' := by
  unfold putL getX
  rw [if_pos h', if_pos h']
  by_cases h : wr n t i = 0 ∧ rightP x.v x.l x.r x.f
  · rw [if_pos h, word_st hl h.1 h' (encI_range h.2)]
    by_cases hc : t = t' ∧ i = i'
    · rw [if_pos hc, if_pos ⟨h, hc⟩, (dc_enc h.2).1]
    · rw [if_neg hc, if_neg (fun g => hc g.2)]
  · rw [if_neg h, if_neg (fun g => h g.1)]
theorem put_getE {n : Nat} {xs : List Int} (hl : xs.length = n * 64) (t i : Int) (x : Et) {t' i' : Int} (h' : wr n t' i' = 0) :
    getE n (putL n xs t i x) t' i' = if (wr n t i = 0 ∧ rightP x.v x.l x.r x.f) ∧ t = t' ∧ i = i' then 0 else getE n xs t' i' := by
  unfold putL getE
  rw [if_pos h', if_pos h']
  by_cases h : wr n t i = 0 ∧ rightP x.v x.l x.r x.f
  · rw [if_pos h, word_st hl h.1 h' (encI_range h.2)]
    by_cases hc : t = t' ∧ i = i'
    · rw [if_pos hc, if_pos ⟨h, hc⟩, (dc_enc h.2).2]
    · rw [if_neg hc, if_neg (fun g => hc g.2)]
  · rw [if_neg h, if_neg (fun g => h g.1)]
theorem gt_rep (m a : Nat) : gt (List.replicate m 0) a = 0 := by
  unfold gt
  rw [List.getD_eq_getElem?_getD, List.getElem?_replicate]
  split <;> rfl
theorem ld_rep (m a : Nat) : ldV (List.replicate m 0) a 2 = 0 := by rw [ld2, gt_rep, gt_rep]; rfl
theorem dcE_0 : dcE 0 = 0 := by decide
/-- No word of any table is spoilt. -/
def Clean (n : Nat) (xs : List Int) : Prop := ∀ t i, wr n t i = 0 → getE n xs t i = 0
theorem clean_0 (n : Nat) : Clean n (List.replicate (n * 64) 0) := by
  intro t i h
  unfold getE
  rw [if_pos h, ld_rep, dcE_0]
theorem clean_put {n : Nat} {xs : List Int} (hl : xs.length = n * 64) (h : Clean n xs) (t i : Int) (x : Et) : Clean n (putL n xs t i x) := by
  intro t' i' h'
  rw [put_getE hl t i x h']
  split
  · rfl
  · exact h t' i' h'
theorem wr_in {n : Nat} {t : Int} (ht : 0 ≤ t ∧ t < n) {j : Nat} (hj : j < 32) : wr n t j = 0 := by
  unfold wr
  rw [if_neg (by omega), if_neg (by omega)]
theorem clean_all {n : Nat} {xs : List Int} (h : Clean n xs) {t : Int} (ht : 0 ≤ t ∧ t < n) : allE n xs t = 0 := allE_0 (fun j hj => h t j (wr_in ht hj))
/-- A raw half word in one of two tables. -/
theorem spoil_0 (i v : Int) (hi : 0 ≤ i ∧ i ≤ 31) (hv : 0 ≤ v ∧ v ≤ 65535) (x : Et) :
    allE 2 (storeL 2 (putL 2 (List.replicate (2 * 64) 0) 1 (31 - i) x) (2 * i) 2 v) 0 = dcE v ∧ allE 2 (storeL 2 (putL 2 (List.replicate (2 * 64) 0) 1 (31 - i) x) (2 * i) 2 v) 1 = 0 := by
  have hl : (putL 2 (List.replicate (2 * 64) 0) 1 (31 - i) x).length = 2 * 64 := putL_length (by simp) _ _ _
  have hw : wr 2 0 i = 0 := by unfold wr; rw [if_neg (by omega), if_neg (by omega)]
  have hs : storeL 2 (putL 2 (List.replicate (2 * 64) 0) 1 (31 - i) x) (2 * i) 2 v = stL (putL 2 (List.replicate (2 * 64) 0) 1 (31 - i) x) (ea 0 i).toNat 2 v := by
    have e : 2 * i = ea 0 i := by unfold ea; omega
    rw [e]
    exact if_pos (ea_bad hw)
  have hc := clean_put (n := 2) (by simp) (clean_0 2) 1 (31 - i) x
  have key : ∀ t' i', wr 2 t' i' = 0 → getE 2 (stL (putL 2 (List.replicate (2 * 64) 0) 1 (31 - i) x) (ea 0 i).toNat 2 v) t' i' = if 0 = t' ∧ i = i' then dcE v else 0 := by
    intro t' i' h'
    unfold getE
    rw [if_pos h', word_st hl hw h' hv]
    by_cases hcc : 0 = t' ∧ i = i'
    · rw [if_pos hcc, if_pos hcc]
    · rw [if_neg hcc, if_neg hcc]
      have := hc t' i' h'
      unfold getE at this
      rw [if_pos h'] at this
      exact this
  rw [hs]
  constructor
  · by_cases hd : dcE v = 0
    · rw [hd]
      refine allE_0 (fun j hj => ?_)
      rw [key _ _ (wr_in (by omega) hj), hd]
      split <;> rfl
    · obtain ⟨k, hk⟩ := Int.eq_ofNat_of_zero_le hi.1
      have hk32 : k < 32 := by omega
      have e : getE 2 (stL (putL 2 (List.replicate (2 * 64) 0) 1 (31 - i) x) (ea 0 i).toNat 2 v) 0 k = dcE v := by
        rw [key _ _ (wr_in (by omega) hk32), if_pos ⟨rfl, hk⟩]
      rw [allE_at (i := k) (fun j hj => ?_) hk32 (by rw [e]; exact hd), e]
      rw [key _ _ (wr_in (by omega) (by omega)), if_neg (by omega)]
  · refine allE_0 (fun j hj => ?_)
    rw [key _ _ (wr_in (by omega) hj), if_neg (by omega)]
end Go.Proofs.Ytggbhokhibfdmaa
