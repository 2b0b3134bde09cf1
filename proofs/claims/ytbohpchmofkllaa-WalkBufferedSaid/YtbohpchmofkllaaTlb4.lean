/- The buffer and the document's: alike, as long as each entry is none or right and no page stands twice. Conditions: none. -/
import Derived.Test.YtbohpchmofkllaaTlb3
set_option linter.unusedVariables false
set_option linter.unusedSimpArgs false
set_option maxRecDepth 10000
set_option maxHeartbeats 4000000
namespace Go.Proofs.Ytbohpchmofkllaa
open Vc
structure TI (ls : List Ln) : Prop where
  len : ls.length = 8
  ok : ∀ l, l ∈ ls → l = ln0 ∨ 1 ≤ l.v
  one : ∀ (i j : Nat) x y, ls[i]? = some x → ls[j]? = some y → x ≠ ln0 → lsame x y = true → i = j
theorem ln0_v {l : Ln} (h : l = ln0 ∨ 1 ≤ l.v) : l ≠ ln0 ↔ l.v ≠ 0 := by
  constructor
  · intro h1
    rcases h with h | h
    · exact absurd h h1
    · omega
  · intro h1 h2
    subst h2
    exact h1 rfl
theorem mt_R {ls : List Ln} (h : TI ls) {v a p : Int} {l : Ln} (hl : l ∈ ls) : mt v a p l = mtR v a p l := by
  rw [Bool.eq_iff_iff]
  simp only [mt, mtR, decide_eq_true_eq, ln0_v (h.ok l hl)]
theorem findIdx_find {c : Ln → Bool} : ∀ (ls : List Ln), (ls.findIdx? c).map (fun i => ls.getD i ln0) = ls.find? c
  | [] => rfl
  | x :: r => by
    rw [List.findIdx?_cons, List.find?_cons]
    cases hc : c x with
    | true => simp
    | false =>
      rw [← findIdx_find r]
      simp [Function.comp_def]
theorem find?_congr' {c d : Ln → Bool} : ∀ {ls : List Ln}, (∀ l, l ∈ ls → c l = d l) → ls.find? c = ls.find? d
  | [], _ => rfl
  | x :: r, h => by
    rw [List.find?_cons, List.find?_cons, h x (by simp), find?_congr' (fun l hl => h l (by simp [hl]))]
theorem rfnd_eq {ls : List Ln} (h : TI ls) (v a p : Int) : rfnd v a p ls = ls.find? (mt v a p) := by
  rw [rfnd, findIdx_find]
  exact (find?_congr' (fun l hl => mt_R h hl)).symm
theorem flR_eq {ls : List Ln} (h : TI ls) {c pr : Ln → Bool} (hc : ∀ l, 1 ≤ l.v → c l = pr l) (h0 : c ln0 = false) : rl c ls = flL pr ls ∧ rn c ls = flN pr ls := by
  have key : ∀ l, l ∈ ls → (c l = true ↔ l ≠ ln0 ∧ pr l = true) := by
    intro l hl
    rcases h.ok l hl with rfl | h1
    · simp [h0]
    · rw [hc l h1]
      have : l ≠ ln0 := by rintro rfl; exact absurd h1 (by decide)
      simp [this]
  constructor
  · refine List.map_congr_left (fun l hl => ?_)
    by_cases hcl : c l = true
    · rw [if_pos hcl, if_pos ((key l hl).1 hcl)]
    · rw [if_neg hcl, if_neg (fun h => hcl ((key l hl).2 h))]
  · refine List.countP_congr (fun l hl => ?_)
    rw [decide_eq_true_eq]
    exact key l hl
theorem fillR_eq {ls : List Ln} (h : TI ls) (at_ : Int) (l : Ln) : rfillL at_ l ls = fillL at_ l ls := by
  unfold rfillL fillL
  by_cases hc : atP at_ ∧ lnRight l
  · rw [if_pos hc, if_pos hc]
    congr 1
    have hv : 1 ≤ l.v := hc.2.1.1
    have key : ∀ x, mtR l.v l.a l.p x = lsame l x := by
      intro x
      rw [Bool.eq_iff_iff]
      simp only [mtR, lsame, decide_eq_true_eq]
      omega
    cases hix : ls.findIdx? (mtR l.v l.a l.p) with
    | none =>
      rw [List.findIdx?_eq_none_iff] at hix
      show ls = flL (lsame l) ls
      rw [flL]
      conv => lhs; rw [← List.map_id ls]
      refine List.map_congr_left (fun x hx => ?_)
      rw [if_neg]
      · rfl
      · rintro ⟨_, hs⟩
        rw [← key, hix x hx] at hs
        cases hs
    | some i =>
      obtain ⟨hi, hm, hlt⟩ := List.findIdx?_eq_some_iff_getElem.1 hix
      apply List.ext_getElem?
      intro j
      rw [flL, List.getElem?_map]
      by_cases hij : i = j
      · subst hij
        rw [List.getElem?_set_self hi, List.getElem?_eq_getElem hi]
        rw [key] at hm
        simp only [Option.map_some]
        have hne : ls[i] ≠ ln0 := by
          intro e
          rw [e] at hm
          simp only [lsame, decide_eq_true_eq] at hm
          have : (0 : Int) = l.v := hm.1
          omega
        rw [if_pos ⟨hne, hm⟩]
      · rw [List.getElem?_set_ne hij]
        cases hj : ls[j]? with
        | none => rfl
        | some y =>
          simp only [Option.map_some]
          rw [if_neg]
          rintro ⟨hy, hs⟩
          rw [key] at hm
          refine hij (h.one i j _ y (List.getElem?_eq_getElem hi) hj ?_ ?_)
          · intro e
            rw [e] at hm
            simp only [lsame, decide_eq_true_eq] at hm
            have : (0 : Int) = l.v := hm.1
            omega
          · simp only [lsame, decide_eq_true_eq] at hm hs ⊢
            omega
  · rw [if_neg hc, if_neg hc]
theorem TI_fl {ls : List Ln} (h : TI ls) (pr : Ln → Bool) : TI (flL pr ls) := by
  have key : ∀ (i : Nat) x, (flL pr ls)[i]? = some x → x = ln0 ∨ ls[i]? = some x := by
    intro i x hx
    rw [flL, List.getElem?_map] at hx
    obtain ⟨y, hy, rfl⟩ := Option.map_eq_some_iff.1 hx
    split
    · exact .inl rfl
    · exact .inr hy
  refine ⟨by simp [flL, h.len], fun l hl => ?_, fun i j x y hx hy h0 hs => ?_⟩
  · obtain ⟨i, hi⟩ := List.mem_iff_getElem?.1 hl
    rcases key i l hi with h1 | h1
    · exact .inl h1
    · exact h.ok l (List.mem_iff_getElem?.2 ⟨i, h1⟩)
  · have hx' := (key i x hx).resolve_left h0
    have hv := (h.ok x (List.mem_iff_getElem?.2 ⟨i, hx'⟩)).resolve_left h0
    have hy' := (key j y hy).resolve_left (by
      rintro rfl
      simp only [lsame, decide_eq_true_eq] at hs
      have : (0 : Int) = x.v := hs.1
      omega)
    exact h.one i j x y hx' hy' h0 hs
theorem TI_ev {ls : List Ln} (h : TI ls) (at_ : Int) : TI (evL at_ ls) := by
  unfold evL
  split
  · have key : ∀ (i : Nat) x, (ls.set at_.toNat ln0)[i]? = some x → x = ln0 ∨ ls[i]? = some x := by
      intro i x hx
      by_cases hi : at_.toNat = i
      · subst hi
        rw [List.getElem?_set_self'] at hx
        obtain ⟨y, hy, rfl⟩ := Option.map_eq_some_iff.1 hx
        exact .inl rfl
      · rw [List.getElem?_set_ne hi] at hx
        exact .inr hx
    refine ⟨by simp [h.len], fun l hl => ?_, fun i j x y hx hy h0 hs => ?_⟩
    · obtain ⟨i, hi⟩ := List.mem_iff_getElem?.1 hl
      rcases key i l hi with h1 | h1
      · exact .inl h1
      · exact h.ok l (List.mem_iff_getElem?.2 ⟨i, h1⟩)
    · have hx' := (key i x hx).resolve_left h0
      have hv := (h.ok x (List.mem_iff_getElem?.2 ⟨i, hx'⟩)).resolve_left h0
      have hy' := (key j y hy).resolve_left (by
        rintro rfl
        simp only [lsame, decide_eq_true_eq] at hs
        have : (0 : Int) = x.v := hs.1
        omega)
      exact h.one i j x y hx' hy' h0 hs
  · exact h
theorem TI_fill {ls : List Ln} (h : TI ls) (at_ : Int) (l : Ln) : TI (fillL at_ l ls) := by
  unfold fillL
  split
  case isFalse => exact h
  case isTrue hc =>
    have hv : 1 ≤ l.v := hc.2.1.1
    have h1 := TI_fl h (lsame l)
    have no : ∀ (i : Nat) x, (flL (lsame l) ls)[i]? = some x → ¬ lsame l x = true := by
      intro i x hx
      rw [flL, List.getElem?_map] at hx
      obtain ⟨y, hy, rfl⟩ := Option.map_eq_some_iff.1 hx
      split
      · intro e
        simp only [lsame, decide_eq_true_eq] at e
        have : (0 : Int) = l.v := e.1
        omega
      · rename_i hn
        intro e
        refine hn ⟨?_, e⟩
        rintro rfl
        simp only [lsame, decide_eq_true_eq] at e
        have : (0 : Int) = l.v := e.1
        omega
    have key : ∀ (i : Nat) x, ((flL (lsame l) ls).set at_.toNat l)[i]? = some x → (at_.toNat = i ∧ x = l) ∨ (at_.toNat ≠ i ∧ (flL (lsame l) ls)[i]? = some x) := by
      intro i x hx
      by_cases hi : at_.toNat = i
      · subst hi
        rw [List.getElem?_set_self'] at hx
        obtain ⟨y, hy, rfl⟩ := Option.map_eq_some_iff.1 hx
        exact .inl ⟨rfl, rfl⟩
      · rw [List.getElem?_set_ne hi] at hx
        exact .inr ⟨hi, hx⟩
    refine ⟨by simp [h1.len], fun x hx => ?_, fun i j x y hx hy h0 hs => ?_⟩
    · obtain ⟨i, hi⟩ := List.mem_iff_getElem?.1 hx
      rcases key i x hi with ⟨_, rfl⟩ | ⟨_, h2⟩
      · exact .inr hv
      · exact h1.ok x (List.mem_iff_getElem?.2 ⟨i, h2⟩)
    · rcases key i x hx with ⟨hi, rfl⟩ | ⟨hi, hx'⟩
      · rcases key j y hy with ⟨hj, rfl⟩ | ⟨hj, hy'⟩
        · omega
        · exact absurd hs (no j y hy')
      · rcases key j y hy with ⟨hj, rfl⟩ | ⟨hj, hy'⟩
        · refine absurd ?_ (no i x hx')
          simp only [lsame, decide_eq_true_eq] at hs ⊢
          omega
        · exact h1.one i j x y hx' hy' h0 hs
/-- An act. -/
structure Ac where
  d : Int
  at_ : Int
  l : Ln
  v : Int
  a : Int
  p : Int
def acV (x : Ac) : List Value := [.int .i64 x.d, .int .i64 x.at_, .int .i64 x.l.v, .int .i64 x.l.a, .int .i64 x.l.p, .int .i64 x.l.f, .int .i64 x.l.r, .int .i64 x.v, .int .i64 x.a, .int .i64 x.p]
def doL (x : Ac) (ls : List Ln) : List Ln :=
  if x.d = 1 then fillL x.at_ x.l ls else if x.d = 2 then ls else if x.d = 3 then evL x.at_ ls else
  if x.v < 0 ∨ x.a < 0 ∨ x.p < 0 then ls else
  if x.d = 4 then flL (prPage x.v x.p) ls else if x.d = 5 then flL (prAsid x.v x.a) ls else if x.d = 6 then flL (prVmid x.v) ls else if x.d = 7 then flL prAll ls else ls
def doF (x : Ac) (ls : List Ln) (f : Int) : Int := if x.d = 2 then fndF f (ls.find? (mt x.v x.a x.p)) else f
def doM (x : Ac) (ls : List Ln) (m : Int) : Int := if x.d = 2 then fndM m (ls.find? (mt x.v x.a x.p)) else m
theorem TI_do {ls : List Ln} (h : TI ls) (x : Ac) : TI (doL x ls) := by
  unfold doL
  split
  · exact TI_fill h _ _
  split
  · exact h
  split
  · exact TI_ev h _
  split
  · exact h
  split
  · exact TI_fl h _
  split
  · exact TI_fl h _
  split
  · exact TI_fl h _
  split
  · exact TI_fl h _
  · exact h
end Go.Proofs.Ytbohpchmofkllaa
