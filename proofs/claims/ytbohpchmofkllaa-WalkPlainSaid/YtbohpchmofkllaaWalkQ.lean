/- A guest's table that says each page to be itself changes nothing. Conditions: none. -/
import Derived.Test.YtbohpchmofkllaaWalkL
import Derived.Test.YtbohpchmofkllaaWalkP
set_option linter.unusedVariables false
set_option linter.unusedSimpArgs false
set_option maxRecDepth 10000
set_option maxHeartbeats 4000000
namespace Go.Proofs.Ytbohpchmofkllaa
open Vc Mem
def pu (t i : Int) (x : Et) : Pu := ⟨t, i, x, false, 0, by omega⟩
def u15 (i : Nat) : Pu := pu 15 i ⟨true, true, 7, i⟩
def tailL (G : List Pu) (se pg : Int) : List Pu := ((((G ++ [pu se 0 ⟨true, false, 0, 13⟩]) ++ [pu 13 30 ⟨true, true, 1, 14⟩]) ++ [pu 13 31 ⟨true, true, 1, 15⟩]) ++ [pu 13 pg ⟨true, true, 5, 3⟩]) ++ [pu 14 0 ⟨true, false, 0, 31⟩]
def allL (G : List Pu) (se pg : Int) (i : Nat) : List Pu := tailL G se pg ++ (List.range i).map u15
theorem tailL_len (G : List Pu) (se pg : Int) : (tailL G se pg).length = G.length + 5 := by simp [tailL]
theorem allL_len (G : List Pu) (se pg : Int) (i : Nat) : (allL G se pg i).length = G.length + 5 + i := by simp [allL, tailL_len]
theorem allL_step (G : List Pu) (se pg : Int) (i : Nat) : allL G se pg i ++ [u15 i] = allL G se pg (i + 1) := by
  simp [allL, List.range_succ]
theorem allL_0 (G : List Pu) (se pg : Int) : allL G se pg 0 = tailL G se pg := by simp [allL]
theorem lay_app (A B : List Pu) : lay (A ++ B) = B.foldl pul (lay A) := by unfold lay; rw [List.foldl_append]
theorem pul_put {X : List Int} {t i : Int} {x : Et} : pul X (pu t i x) = putL 16 X t i x := if_pos rfl
theorem fold_keep {t i : Int} (hw : wr 16 t i = 0) : ∀ (B : List Pu) (X : List Int), X.length = 16 * 64 → (∀ u, u ∈ B → u.raw = false ∧ ¬ (u.t = t ∧ u.i = i)) → getX 16 (B.foldl pul X) t i = getX 16 X t i ∧ getE 16 (B.foldl pul X) t i = getE 16 X t i := by
  intro B
  induction B with
  | nil => intro X _ _; exact ⟨rfl, rfl⟩
  | cons u B ih =>
    intro X hl h
    obtain ⟨h1, h2⟩ := h u (by simp)
    have e : pul X u = putL 16 X u.t u.i u.x := if_pos h1
    have h3 := ih (pul X u) (pul_length hl u) (fun v hv => h v (by simp [hv]))
    rw [e] at h3
    rw [List.foldl_cons, e]
    rw [h3.1, h3.2, put_getX hl _ _ _ hw, put_getE hl _ _ _ hw, if_neg (fun h4 => h2 h4.2), if_neg (fun h4 => h2 h4.2)]
    exact ⟨rfl, rfl⟩
theorem entry_of (A B : List Pu) {t i : Int} {x : Et} (hw : wr 16 t i = 0) (hr : rightP x.v x.l x.r x.f) (h : ∀ u, u ∈ B → u.raw = false ∧ ¬ (u.t = t ∧ u.i = i)) : getX 16 (lay (A ++ pu t i x :: B)) t i = x ∧ getE 16 (lay (A ++ pu t i x :: B)) t i = 0 := by
  have hl := (lay_in A).1
  rw [lay_app, List.foldl_cons, pul_put]
  obtain ⟨h1, h2⟩ := fold_keep hw B (putL 16 (lay A) t i x) (putL_length hl _ _ _) h
  rw [h1, h2, put_getX hl _ _ _ hw, put_getE hl _ _ _ hw, if_pos ⟨⟨hw, hr⟩, rfl, rfl⟩, if_pos ⟨⟨hw, hr⟩, rfl, rfl⟩]
  exact ⟨rfl, rfl⟩
structure Facts (X : List Int) (se pg : Int) : Prop where
  a : getX 16 X se 0 = ⟨true, false, 0, 13⟩ ∧ getE 16 X se 0 = 0
  b : getX 16 X 13 30 = ⟨true, true, 1, 14⟩ ∧ getE 16 X 13 30 = 0
  c : getX 16 X 13 31 = ⟨true, true, 1, 15⟩ ∧ getE 16 X 13 31 = 0
  d : getX 16 X 14 0 = ⟨true, false, 0, 31⟩ ∧ getE 16 X 14 0 = 0
  e : getX 16 X 15 pg = ⟨true, true, 7, pg⟩ ∧ getE 16 X 15 pg = 0
theorem wr_16 {t i : Int} (ht : 0 ≤ t ∧ t < 16) (hi : 0 ≤ i ∧ i ≤ 31) : wr 16 t i = 0 := by
  unfold wr
  rw [if_neg (by omega), if_neg (by omega)]
theorem mem_15 {i : Nat} {u : Pu} (h : u ∈ (List.range i).map u15) : u.raw = false ∧ u.t = 15 := by
  obtain ⟨j, _, rfl⟩ := List.mem_map.1 h
  exact ⟨rfl, rfl⟩
theorem facts (G : List Pu) (se pg : Int) (hs : 0 ≤ se ∧ se ≤ 12) (hp : 0 ≤ pg ∧ pg ≤ 29) : Facts (lay (allL G se pg 32)) se pg := by
  have r0 : ∀ f : Int, 0 ≤ f ∧ f ≤ 1023 → rightP true false 0 f := fun f hf => by unfold rightP; simp; omega
  have r1 : ∀ r f : Int, 0 ≤ r ∧ r ≤ 7 → 0 ≤ f ∧ f ≤ 1023 → rightP true true r f := fun r f hr hf => by unfold rightP; simp; omega
  constructor
  · have := entry_of G ([pu 13 30 ⟨true, true, 1, 14⟩, pu 13 31 ⟨true, true, 1, 15⟩, pu 13 pg ⟨true, true, 5, 3⟩, pu 14 0 ⟨true, false, 0, 31⟩] ++ (List.range 32).map u15) (t := se) (i := 0) (x := ⟨true, false, 0, 13⟩) (wr_16 (by omega) (by omega)) (r0 13 (by omega)) (fun u hu => by
      rcases List.mem_append.1 hu with h | h
      · simp at h
        rcases h with rfl | rfl | rfl | rfl
        · exact ⟨rfl, fun h => by have h1 : (13 : Int) = se := h.1; omega⟩
        · exact ⟨rfl, fun h => by have h1 : (13 : Int) = se := h.1; omega⟩
        · exact ⟨rfl, fun h => by have h1 : (13 : Int) = se := h.1; omega⟩
        · exact ⟨rfl, fun h => by have h1 : (14 : Int) = se := h.1; omega⟩
      · obtain ⟨h1, h2⟩ := mem_15 h
        exact ⟨h1, fun h => by have := h.1; omega⟩)
    simpa [allL, tailL] using this
  · have := entry_of (G ++ [pu se 0 ⟨true, false, 0, 13⟩]) ([pu 13 31 ⟨true, true, 1, 15⟩, pu 13 pg ⟨true, true, 5, 3⟩, pu 14 0 ⟨true, false, 0, 31⟩] ++ (List.range 32).map u15) (t := 13) (i := 30) (x := ⟨true, true, 1, 14⟩) (wr_16 (by omega) (by omega)) (r1 1 14 (by omega) (by omega)) (fun u hu => by
      rcases List.mem_append.1 hu with h | h
      · simp at h
        rcases h with rfl | rfl | rfl
        · exact ⟨rfl, fun h => by have h1 : (31 : Int) = 30 := h.2; omega⟩
        · exact ⟨rfl, fun h => by have h1 : pg = 30 := h.2; omega⟩
        · exact ⟨rfl, fun h => by have h1 : (14 : Int) = 13 := h.1; omega⟩
      · obtain ⟨h1, h2⟩ := mem_15 h
        exact ⟨h1, fun h => by have := h.1; omega⟩)
    simpa [allL, tailL] using this
  · have := entry_of ((G ++ [pu se 0 ⟨true, false, 0, 13⟩]) ++ [pu 13 30 ⟨true, true, 1, 14⟩]) ([pu 13 pg ⟨true, true, 5, 3⟩, pu 14 0 ⟨true, false, 0, 31⟩] ++ (List.range 32).map u15) (t := 13) (i := 31) (x := ⟨true, true, 1, 15⟩) (wr_16 (by omega) (by omega)) (r1 1 15 (by omega) (by omega)) (fun u hu => by
      rcases List.mem_append.1 hu with h | h
      · simp at h
        rcases h with rfl | rfl
        · exact ⟨rfl, fun h => by have h1 : pg = 31 := h.2; omega⟩
        · exact ⟨rfl, fun h => by have h1 : (14 : Int) = 13 := h.1; omega⟩
      · obtain ⟨h1, h2⟩ := mem_15 h
        exact ⟨h1, fun h => by have := h.1; omega⟩)
    simpa [allL, tailL] using this
  · have := entry_of ((((G ++ [pu se 0 ⟨true, false, 0, 13⟩]) ++ [pu 13 30 ⟨true, true, 1, 14⟩]) ++ [pu 13 31 ⟨true, true, 1, 15⟩]) ++ [pu 13 pg ⟨true, true, 5, 3⟩]) ((List.range 32).map u15) (t := 14) (i := 0) (x := ⟨true, false, 0, 31⟩) (wr_16 (by omega) (by omega)) (r0 31 (by omega)) (fun u hu => by
      obtain ⟨h1, h2⟩ := mem_15 hu
      exact ⟨h1, fun h => by have := h.1; omega⟩)
    simpa [allL, tailL] using this
  · obtain ⟨k, hk⟩ := Int.eq_ofNat_of_zero_le hp.1
    subst hk
    have hsplit : List.range 32 = List.range k ++ (k :: (List.range (31 - k)).map (fun j => j + (k + 1))) := by
      apply List.ext_getElem
      · simp; omega
      · intro m h1 h2
        simp only [List.getElem_range]
        by_cases hk : m < k
        · rw [List.getElem_append_left (by simpa using hk)]; simp
        · rw [List.getElem_append_right (by simp; omega)]
          simp only [List.length_range]
          by_cases hk2 : m = k
          · subst hk2; simp
          · rw [List.getElem_cons, dif_neg (by omega)]
            simp
            omega
    have := entry_of (tailL G se k ++ (List.range k).map u15) (((List.range (31 - k)).map (fun j => j + (k + 1))).map u15) (t := 15) (i := k) (x := ⟨true, true, 7, k⟩) (wr_16 (by omega) (by omega)) (r1 7 k (by omega) (by omega)) (fun u hu => by
      obtain ⟨j, hj, rfl⟩ := List.mem_map.1 hu
      obtain ⟨m, hm, rfl⟩ := List.mem_map.1 hj
      exact ⟨rfl, fun h => by have h1 : ((m + (k + 1) : Nat) : Int) = k := h.2; omega⟩)
    have e : allL G se k 32 = (tailL G se k ++ (List.range k).map u15) ++ pu 15 k ⟨true, true, 7, k⟩ :: ((List.range (31 - k)).map (fun j => j + (k + 1))).map u15 := by
      unfold allL
      rw [hsplit, List.map_append, List.map_cons, List.append_assoc]
      rfl
    rw [e]
    exact this
theorem stp_of {X : List Int} {t pg lv i : Int} {x : Et} (ht : 0 ≤ t ∧ t < 16) (hi : indexI pg lv = i) (hx : getX 16 X t i = x ∧ getE 16 X t i = 0) (hv : x.v = true) (hl : x.l = decide (lv = 1)) : stpK 16 X t pg lv = 0 ∧ stpX 16 X t pg lv = x := by
  subst hi
  have hk : stpK 16 X t pg lv = 0 := by
    unfold stpK
    rw [if_neg (by omega), if_neg (fun h => h hx.2), hx.1, if_neg (by rw [hv]; decide), if_pos hl]
  exact ⟨hk, (if_pos hk).trans hx.1⟩
theorem sgl_of {X : List Int} {root pg i j : Int} {x y : Et} (hr : 0 ≤ root ∧ root < 16) (hp : 0 ≤ pg ∧ pg ≤ 1023) (hi : indexI pg 0 = i) (hx : getX 16 X root i = x ∧ getE 16 X root i = 0) (hv : x.v = true) (hl : x.l = false) (hf : 0 ≤ x.f ∧ x.f < 16)
    (hj : indexI pg 1 = j) (hy : getX 16 X x.f j = y ∧ getE 16 X x.f j = 0) (hv' : y.v = true) (hl' : y.l = true) : sgl 16 X root pg = ⟨y.f, y.r, fa0⟩ := by
  obtain ⟨a1, a2⟩ := stp_of hr hi hx hv (by rw [hl]; rfl)
  obtain ⟨b1, b2⟩ := stp_of hf hj hy hv' (by rw [hl']; rfl)
  unfold sgl
  rw [if_neg (fun h => h hp), if_neg (fun h => h a1), a2, if_neg (fun h => h b1), b2]
theorem scd_eq' {n : Nat} {xs : List Int} {root pg want : Int} (h1 : (sgl n xs root pg).f.k = 0) (h2 : ¬ band (sgl n xs root pg).b want = 0) : scd n xs root pg want = ⟨(sgl n xs root pg).a, (sgl n xs root pg).b, fa0⟩ := by
  unfold scd
  rw [if_neg (fun h => h h1), if_neg h2]
theorem band7_8 : ∀ b : Fin 8, band b.1 7 = b.1 := by decide
theorem band_7 {b : Int} (hb : 0 ≤ b ∧ b ≤ 7) : band b 7 = b := by
  obtain ⟨b, rfl⟩ := in8 hb
  exact band7_8 b
theorem own_plain {X : List Int} {se pg : Int} (h : Facts X se pg) (hs : 0 ≤ se ∧ se ≤ 12) (hp : 0 ≤ pg ∧ pg ≤ 29) : own 16 X ⟨0, 0, 30, se⟩ pg = ⟨⟨true, true, 7, pg⟩, fa0⟩ := by
  have s30 : sgl 16 X se 30 = ⟨14, 1, fa0⟩ := sgl_of (by omega) (by omega) (by decide) h.a rfl rfl ⟨by decide, by decide⟩ (by decide) h.b rfl rfl
  have s31 : sgl 16 X se 31 = ⟨15, 1, fa0⟩ := sgl_of (by omega) (by omega) (by decide) h.a rfl rfl ⟨by decide, by decide⟩ (by decide) h.c rfl rfl
  have c30 : scd 16 X se 30 1 = ⟨14, 1, fa0⟩ := by rw [scd_eq' (by rw [s30]; rfl) (by rw [s30]; decide), s30]
  have c31 : scd 16 X se 31 1 = ⟨15, 1, fa0⟩ := by rw [scd_eq' (by rw [s31]; rfl) (by rw [s31]; decide), s31]
  obtain ⟨d1, d2⟩ := stp_of (X := X) (t := 14) (pg := pg) (lv := 0) (i := 0) (by omega) (by unfold indexI; rw [if_pos (by omega), if_pos rfl]; omega) h.d rfl rfl
  obtain ⟨e1, e2⟩ := stp_of (X := X) (t := 15) (pg := pg) (lv := 1) (i := pg) (by omega) (by unfold indexI; rw [if_pos (by omega), if_neg (by decide), if_pos rfl]; omega) h.e rfl rfl
  have g0 : gst 16 X se 30 pg 0 = ⟨⟨true, false, 0, 31⟩, fa0⟩ := by
    unfold gst
    rw [c30, if_neg (fun hn => hn rfl)]
    show (if ¬ stpK 16 X 14 pg 0 = 0 then _ else (⟨stpX 16 X 14 pg 0, fa0⟩ : G2)) = _
    rw [if_neg (fun hn => hn d1), d2]
  have g1 : gst 16 X se 31 pg 1 = ⟨⟨true, true, 7, pg⟩, fa0⟩ := by
    unfold gst
    rw [c31, if_neg (fun hn => hn rfl)]
    show (if ¬ stpK 16 X 15 pg 1 = 0 then _ else (⟨stpX 16 X 15 pg 1, fa0⟩ : G2)) = _
    rw [if_neg (fun hn => hn e1), e2]
  unfold own
  rw [g0, if_neg (fun hn => hn rfl)]
  exact g1
theorem nst_plain {X : List Int} {se pg : Int} (h : Facts X se pg) (hs : 0 ≤ se ∧ se ≤ 12) (hp : 0 ≤ pg ∧ pg ≤ 29) (want : Int) : nst 16 X ⟨0, 0, 30, se⟩ pg want = nst 16 X ⟨0, 0, -1, se⟩ pg want := by
  by_cases h1 : (0 ≤ pg ∧ pg ≤ 1023) ∧ (want = 1 ∨ want = 2 ∨ want = 4)
  · have e1 : nst 16 X ⟨0, 0, -1, se⟩ pg want = scd 16 X se pg want := (if_neg (fun hn => hn h1)).trans (if_pos (by show (-1 : Int) < 0; omega))
    rw [e1]
    unfold nst
    rw [if_neg (fun hn => hn h1), if_neg (by show ¬ ((30 : Int) < 0); omega), own_plain h hs hp, if_neg (fun hn => hn rfl)]
    rw [if_neg (by rcases h1.2 with rfl | rfl | rfl <;> (show ¬ band 7 _ = 0; decide))]
    have hb : 0 ≤ (scd 16 X se pg want).b ∧ (scd 16 X se pg want).b ≤ 7 := by
      by_cases hk : (scd 16 X se pg want).f.k = 0
      · rw [(scd_ok hk).2.2]; exact sgl_b _ _ _ _
      · rw [(scd_no hk).2]; omega
    show (⟨(scd 16 X se pg want).a, band (scd 16 X se pg want).b 7, (scd 16 X se pg want).f⟩ : R3) = _
    rw [band_7 hb]
  · unfold nst
    rw [if_pos h1, if_pos h1]
theorem nst_single {X : List Int} {se pg want : Int} (h : (nst 16 X ⟨0, 0, -1, se⟩ pg want).f.k = 0) : (sgl 16 X se pg).f.k = 0 ∧ (nst 16 X ⟨0, 0, -1, se⟩ pg want).a = (sgl 16 X se pg).a ∧ (nst 16 X ⟨0, 0, -1, se⟩ pg want).b = (sgl 16 X se pg).b := by
  by_cases h1 : (0 ≤ pg ∧ pg ≤ 1023) ∧ (want = 1 ∨ want = 2 ∨ want = 4)
  · have e1 : nst 16 X ⟨0, 0, -1, se⟩ pg want = scd 16 X se pg want := (if_neg (fun hn => hn h1)).trans (if_pos (by show (-1 : Int) < 0; omega))
    rw [e1] at h ⊢
    obtain ⟨⟨a1, _⟩, a3, a4⟩ := scd_ok h
    exact ⟨a1, a3, a4⟩
  · unfold nst at h
    rw [if_pos h1] at h
    exact absurd h (by show ¬ ((3 : Int) = 0); decide)
end Go.Proofs.Ytbohpchmofkllaa
