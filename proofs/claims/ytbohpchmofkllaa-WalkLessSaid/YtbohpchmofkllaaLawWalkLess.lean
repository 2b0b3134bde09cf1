/- 'viceroylaw04.WalkLess' answers true at every input. Conditions: none beside the row's own. -/
import Derived.Test.YtbohpchmofkllaaWalkR
import Derived.Test.YtbohpchmofkllaaWalkP
set_option linter.unusedVariables false
set_option linter.unusedSimpArgs false
set_option maxRecDepth 10000
set_option maxHeartbeats 8000000
namespace Go.Proofs.Ytbohpchmofkllaa
open Vc Mem
theorem ofInt_wrap (v : BitVec 64) : BitVec.ofInt 64 (IntKind.i64.wrap (v.toNat : Int)) = v := by
  apply BitVec.eq_of_toNat_eq
  have := v.isLt
  simp [BitVec.toNat_ofInt, IntKind.wrap, IntKind.bits, IntKind.signed]
  omega
theorem band_sub (a r : Int) : Vc.bits .andNot .i64 (band a r) a = 0 := by
  have h : band a r = IntKind.i64.wrap (((BitVec.ofInt 64 a &&& BitVec.ofInt 64 r).toNat : Nat) : Int) := rfl
  rw [h]
  show IntKind.i64.wrap (((BitVec.ofInt 64 (IntKind.i64.wrap (((BitVec.ofInt 64 a &&& BitVec.ofInt 64 r).toNat : Nat) : Int)) &&& ~~~ (BitVec.ofInt 64 a)).toNat : Nat) : Int) = 0
  rw [ofInt_wrap]
  have : (BitVec.ofInt 64 a &&& BitVec.ofInt 64 r) &&& ~~~ (BitVec.ofInt 64 a) = 0#64 := by
    ext i hi
    simp
    intro h1 _
    exact h1
  rw [this]
  rfl
theorem sub_8 : ∀ a b : Fin 8, ∀ w : Fin 3, Vc.bits .andNot .i64 b.1 a.1 = 0 → ¬ band b.1 (2 ^ w.1 : Nat) = 0 → ¬ band a.1 (2 ^ w.1 : Nat) = 0 := by decide
theorem sub_band {a b w : Int} (ha : 0 ≤ a ∧ a ≤ 7) (hb : 0 ≤ b ∧ b ≤ 7) (hw : w = 1 ∨ w = 2 ∨ w = 4) (h : Vc.bits .andNot .i64 b a = 0) (h1 : ¬ band b w = 0) : ¬ band a w = 0 := by
  obtain ⟨a, rfl⟩ := in8 ha
  obtain ⟨b, rfl⟩ := in8 hb
  rcases hw with rfl | rfl | rfl
  · exact sub_8 a b 0 h h1
  · exact sub_8 a b 1 h h1
  · exact sub_8 a b 2 h h1
/-- An entry of the last level that has a right less. -/
structure Less (X X' : List Int) (R : Int) : Prop where
  get : ∀ t i, (getX 16 X' t i = getX 16 X t i ∧ getE 16 X' t i = getE 16 X t i) ∨
    (∃ r f, getX 16 X t i = ⟨true, true, r, f⟩ ∧ getX 16 X' t i = ⟨true, true, band r R, f⟩ ∧ getE 16 X t i = 0 ∧ getE 16 X' t i = 0)
theorem less_put {X : List Int} (hl : X.length = 16 * 64) {t i r f R : Int} (hx : getX 16 X t i = ⟨true, true, r, f⟩) (he : getE 16 X t i = 0) (hw : wr 16 t i = 0) (hr : rightP true true (band r R) f) : Less X (putL 16 X t i ⟨true, true, band r R, f⟩) R := by
  constructor
  intro t' i'
  by_cases h' : wr 16 t' i' = 0
  · rw [put_getX hl t i _ h', put_getE hl t i _ h']
    by_cases hs : t = t' ∧ i = i'
    · obtain ⟨rfl, rfl⟩ := hs
      refine .inr ⟨r, f, hx, ?_, he, ?_⟩
      · rw [if_pos ⟨⟨hw, hr⟩, rfl, rfl⟩]
      · rw [if_pos ⟨⟨hw, hr⟩, rfl, rfl⟩]
    · refine .inl ⟨?_, ?_⟩
      · rw [if_neg (fun h => hs h.2)]
      · rw [if_neg (fun h => hs h.2)]
  · refine .inl ⟨?_, ?_⟩
    · unfold getX; rw [if_neg h', if_neg h']
    · unfold getE; rw [if_neg h', if_neg h']
theorem stp_less {X X' : List Int} {R : Int} (h : Less X X' R) (t pg lv : Int) (hlv : lv = 0 ∨ lv = 1) :
    stpK 16 X' t pg lv = stpK 16 X t pg lv ∧ (stpX 16 X' t pg lv = stpX 16 X t pg lv ∨ (lv = 1 ∧ (stpX 16 X' t pg lv).f = (stpX 16 X t pg lv).f ∧ (stpX 16 X' t pg lv).r = band (stpX 16 X t pg lv).r R)) := by
  rcases h.get t (indexI pg lv) with ⟨a1, a2⟩ | ⟨r, f, a1, a2, a3, a4⟩
  · have hk : stpK 16 X' t pg lv = stpK 16 X t pg lv := by unfold stpK; rw [a1, a2]
    refine ⟨hk, .inl ?_⟩
    unfold stpX
    rw [hk, a1]
  · have hk : stpK 16 X' t pg lv = stpK 16 X t pg lv := by unfold stpK; rw [a1, a2, a3, a4]
    refine ⟨hk, ?_⟩
    unfold stpX
    rw [hk]
    by_cases h0 : stpK 16 X t pg lv = 0
    · rw [if_pos h0, if_pos h0, a1, a2]
      rcases hlv with rfl | rfl
      · exfalso
        unfold stpK at h0
        rw [a1, a3] at h0
        split at h0
        · exact absurd h0 (by decide)
        · simp at h0
      · exact .inr ⟨rfl, rfl, rfl⟩
    · rw [if_neg h0, if_neg h0]
      exact .inl rfl
theorem sgl_less {X X' : List Int} {R : Int} (h : Less X X' R) (root pg : Int) :
    (sgl 16 X' root pg).f = (sgl 16 X root pg).f ∧ (sgl 16 X' root pg).a = (sgl 16 X root pg).a ∧ ((sgl 16 X' root pg).b = (sgl 16 X root pg).b ∨ (sgl 16 X' root pg).b = band (sgl 16 X root pg).b R) := by
  obtain ⟨k0, x0⟩ := stp_less h root pg 0 (.inl rfl)
  have x0 : stpX 16 X' root pg 0 = stpX 16 X root pg 0 := by
    rcases x0 with x0 | ⟨h1, _⟩
    · exact x0
    · exact absurd h1 (by decide)
  obtain ⟨k1, x1⟩ := stp_less h (stpX 16 X root pg 0).f pg 1 (.inr rfl)
  unfold sgl
  rw [k0, x0, k1]
  split
  · exact ⟨rfl, rfl, .inl rfl⟩
  · split
    · exact ⟨rfl, rfl, .inl rfl⟩
    · split
      · exact ⟨rfl, rfl, .inl rfl⟩
      · rcases x1 with x1 | ⟨_, x1, x2⟩
        · rw [x1]; exact ⟨rfl, rfl, .inl rfl⟩
        · exact ⟨rfl, x1, .inr x2⟩
theorem scd_less {X X' : List Int} {R : Int} (h : Less X X' R) {root pg want : Int} (hw : want = 1 ∨ want = 2 ∨ want = 4) (hk : (scd 16 X' root pg want).f.k = 0) :
    (scd 16 X root pg want).f.k = 0 ∧ (scd 16 X root pg want).a = (scd 16 X' root pg want).a ∧ Vc.bits .andNot .i64 (scd 16 X' root pg want).b (scd 16 X root pg want).b = 0 := by
  obtain ⟨⟨a1, a2⟩, a3, a4⟩ := scd_ok hk
  obtain ⟨b1, b2, b3⟩ := sgl_less h root pg
  have hsub : Vc.bits .andNot .i64 (sgl 16 X' root pg).b (sgl 16 X root pg).b = 0 := by
    rcases b3 with b3 | b3
    · rw [b3]; exact not_self (sgl_b _ _ _ _)
    · rw [b3]; exact band_sub _ _
  have hb : ¬ band (sgl 16 X root pg).b want = 0 := sub_band (sgl_b _ _ _ _) (sgl_b _ _ _ _) hw hsub a2
  have e : scd 16 X root pg want = ⟨(sgl 16 X root pg).a, (sgl 16 X root pg).b, fa0⟩ := by
    unfold scd
    rw [if_neg (by rw [← b1]; omega), if_neg hb]
  rw [e, a3, a4]
  exact ⟨rfl, b2.symm, hsub⟩
theorem nst_less {X X' : List Int} {R : Int} (h : Less X X' R) {s : Sp} (hs : s.fi < 0) {pg want : Int} (hk : (nst 16 X' s pg want).f.k = 0) :
    (nst 16 X s pg want).f.k = 0 ∧ (nst 16 X s pg want).a = (nst 16 X' s pg want).a ∧ Vc.bits .andNot .i64 (nst 16 X' s pg want).b (nst 16 X s pg want).b = 0 := by
  unfold nst at hk ⊢
  by_cases h1 : (0 ≤ pg ∧ pg ≤ 1023) ∧ (want = 1 ∨ want = 2 ∨ want = 4)
  · rw [if_neg (fun hn => hn h1), if_pos hs] at hk ⊢
    rw [if_neg (fun hn => hn h1), if_pos hs]
    exact scd_less h h1.2 hk
  · rw [if_pos h1] at hk
    exact absurd hk (by show ¬ ((3 : Int) = 0); decide)
theorem getE_wr {n : Nat} {xs : List Int} {t i : Int} (h : getE n xs t i = 0) : wr n t i = 0 := by
  by_cases hw : wr n t i = 0
  · exact hw
  · unfold getE at h
    rw [if_neg hw] at h
    exact h
/-- Nothing is asked. -/
theorem walkLess_ret (X : List Int) (hl : X.length = 16 * 64) (hB : By X) (us : List Pu) (hX : lay (us.take 200) = X) (a : Option Addr) (len cap : Nat) (w : World) (hlen : us.length = len) (ha : Arr w 8 puV a us) (s : Sp) (pg want t i R : Int)
    (e : Int) (x : Et) (he : getE 16 X t i = e) (hx0 : getX 16 X t i = x) (hR : ¬ (e = 0 ∧ x.v = true ∧ x.l = true ∧ s.fi < 0)) :
    Con Try.prog 5 [.slice a len cap, spA s, .int .i64 pg, .int .i64 want, .int .i64 t, .int .i64 i, .int .i64 R] w [] (fun y L' => y = .bool true ∧ L' = []) := by
  obtain ⟨xv, xl, xr, xf⟩ := x
  cases xv <;> cases xl
  all_goals
    refine Con.of_vc tabOk 120 [.tmp 14] Try.func5 rfl Try.ntmps5 Try.results5 rfl (Own.nil' w) ?_
    repeat' ((conv => whnf); first
      | (show _ ∧ _; first | (simp only [hX, he, hx0] at hx) | (obtain ⟨rfl, rfl⟩ := hx; refine ⟨rfl, ?_⟩) | (obtain ⟨b, rfl, rfl⟩ := hx; refine ⟨rfl, ?_⟩) | (obtain ⟨b, c, rfl, rfl⟩ := hx; refine ⟨rfl, ?_⟩) | (obtain ⟨p, F, sl, B, rfl, rfl⟩ := hx; refine ⟨rfl, ?_⟩) | (obtain ⟨rfl, rfl⟩ := hx; refine ⟨rfl, ?_⟩) | (obtain ⟨b, rfl, rfl⟩ := hx; refine ⟨rfl, ?_⟩) | (obtain ⟨b, c, rfl, rfl⟩ := hx; refine ⟨rfl, ?_⟩))
      | (show gsplit _ _ _; first | refine gsplit.tt ?_ | refine gsplit.ff ?_ | refine gsplit.dpos (by omega) ?_ | refine gsplit.dneg (by omega) ?_ | refine gsplit.npos (by omega) ?_ | refine gsplit.nneg (by omega) ?_ | refine gsplit.dec (fun hc => ?_) (fun hc => ?_) | refine gsplit.ndec (fun hc => ?_) (fun hc => ?_) | refine gsplit.eq (fun hc => ?_) (fun hc => ?_) | refine gsplit.neq (fun hc => ?_) (fun hc => ?_) | refine gsplit.mk (fun hb => ?_) (fun hb => ?_))
      | (show YQ _ _ _ _ _ _; first | refine qeqp Try.underlying26 ?_ | refine YQ.remN (by omega) ?_ | refine YQ.quoN (by omega) ?_ | refine YQ.len tabOk rfl ?_ | refine YQ.idx tabOk rfl (by omega) ?_ | refine YQ.idxA tabOk rfl (by omega) ?_ | refine YQ.sliceA tabOk rfl (by omega) (by omega) ?_ | refine YQ.sliceAll tabOk rfl ?_ | refine YQ.load1 tabOk rfl 0 rfl rfl ?_ | refine YQ.load1 tabOk rfl 1 rfl rfl ?_ | refine YQ.load1 tabOk rfl 2 rfl rfl ?_ | refine YQ.load1 tabOk rfl 3 rfl rfl ?_ | refine YQ.load1 tabOk rfl 4 rfl rfl ?_ | refine YQ.load1 tabOk rfl 5 rfl rfl ?_ | refine YQ.load1 tabOk rfl 6 rfl rfl ?_ | refine YQ.load1 tabOk rfl 7 rfl rfl ?_ | refine YQ.loadF tabOk rfl 0 rfl rfl ?_ | refine YQ.loadF tabOk rfl 1 rfl rfl ?_ | refine YQ.loadF tabOk rfl 2 rfl rfl ?_ | refine YQ.loadF tabOk rfl 3 rfl rfl ?_ | refine YQ.loadF tabOk rfl 4 rfl rfl ?_ | refine YQ.loadF tabOk rfl 5 rfl rfl ?_ | refine YQ.loadF tabOk rfl 6 rfl rfl ?_ | refine YQ.loadF tabOk rfl 7 rfl rfl ?_ | refine YQ.loadA tabOk rfl 0 rfl rfl rfl ?_ | refine YQ.loadA tabOk rfl 1 rfl rfl rfl ?_ | refine YQ.loadA tabOk rfl 2 rfl rfl rfl ?_ | refine YQ.loadA tabOk rfl 3 rfl rfl rfl ?_ | refine YQ.loadA tabOk rfl 4 rfl rfl rfl ?_ | refine YQ.build tabOk rfl rfl rfl ?_ | refine YQ.eqF tabOk rfl rfl rfl ?_ | refine YQ.neF tabOk rfl rfl rfl ?_)
      | (show YC _ _ _ _ _ _ _; first | refine YC.conR [] [] rfl rfl (fun w _ _ => awake4_con w) (fun x L' hx => ?_) | refine YC.conR [] [] rfl rfl (fun w hw0 _ => laid_con a len cap w us hlen (Arr.later hw0 ha)) (fun x L' hx => ?_) | refine YC.conR [1, 2] _ rfl rfl (fun w hw0 hw => get_con _ _ 16 (by omega) X hB hl t i w hw) (fun x L' hx => ?_))
      | (show YU _ _ _ _ _ _ _ _; first | refine YU.store1L tabOk rfl rfl 0 rfl rfl ?_ | refine YU.store1L tabOk rfl rfl 1 rfl rfl ?_ | refine YU.store1L tabOk rfl rfl 2 rfl rfl ?_ | refine YU.store1L tabOk rfl rfl 3 rfl rfl ?_ | refine YU.store1L tabOk rfl rfl 4 rfl rfl ?_ | refine YU.store1L tabOk rfl rfl 5 rfl rfl ?_ | refine YU.store1L tabOk rfl rfl 6 rfl rfl ?_ | refine YU.store1L tabOk rfl rfl 7 rfl rfl ?_ | refine YU.storeF tabOk rfl rfl rfl 0 rfl rfl ?_ | refine YU.storeF tabOk rfl rfl rfl 1 rfl rfl ?_ | refine YU.storeF tabOk rfl rfl rfl 2 rfl rfl ?_ | refine YU.storeF tabOk rfl rfl rfl 3 rfl rfl ?_ | refine YU.storeF tabOk rfl rfl rfl 4 rfl rfl ?_ | refine YU.storeF tabOk rfl rfl rfl 5 rfl rfl ?_ | refine YU.storeF tabOk rfl rfl rfl 6 rfl rfl ?_ | refine YU.storeF tabOk rfl rfl rfl 7 rfl rfl ?_ | refine YU.storeAL tabOk rfl rfl rfl 0 rfl rfl ?_ | refine YU.storeAL tabOk rfl rfl rfl 1 rfl rfl ?_ | refine YU.storeAL tabOk rfl rfl rfl 2 rfl rfl ?_ | refine YU.storeAL tabOk rfl rfl rfl 3 rfl rfl ?_ | refine YU.storeAL tabOk rfl rfl rfl 4 rfl rfl ?_)
      | (show Wr _ _ _; first | refine Wr.i64 (by omega) ?_ | refine Wr.u8 (by omega) ?_ | refine Wr.u16 (by omega) ?_ | refine Wr.u32 (by omega) ?_)
      | (show BIf _ _ _; first | refine BIf.pos rfl ?_ | refine BIf.neg rfl ?_)
      | (show Dr _ _ _ _ _ _ _ _ _; first | refine Dr.all (by kernel_rfl) ?_)
      | (show Fork _ _; first | refine Fork.mk ?_ ?_)
      | (show Vc.Fin _ _ _; first | refine Fin.take 0 (And.intro ?_ rfl))
      | intro b)
  all_goals first
    | (show Value.bool _ = Value.bool _; rfl)
    | contradiction
    | (exfalso; omega)
    | (exfalso; exact hR ⟨by assumption, rfl, rfl, by omega⟩)
theorem walkLess_goes (X : List Int) (hl : X.length = 16 * 64) (hB : By X) (us : List Pu) (hX : lay (us.take 200) = X) (a : Option Addr) (len cap : Nat) (w : World) (hlen : us.length = len) (ha : Arr w 8 puV a us) (s : Sp) (pg want t i R : Int)
    (r f : Int) (he : getE 16 X t i = 0) (hx0 : getX 16 X t i = ⟨true, true, r, f⟩) (hs : s.fi < 0) (e2 : Int) (he2 : putE 16 t i ⟨true, true, band r R, f⟩ = e2) (g g' : R3) (hg : nst 16 X s pg want = g) (hg' : nst 16 (putL 16 X t i ⟨true, true, band r R, f⟩) s pg want = g')
    (h0 : ¬ g'.f.k = 0 → g'.a = 0 ∧ g'.b = 0) (h1 : e2 = 0 → g'.f.k = 0 → g.f.k = 0 ∧ g.a = g'.a ∧ Vc.bits .andNot .i64 g'.b g.b = 0) :
    Con Try.prog 5 [.slice a len cap, spA s, .int .i64 pg, .int .i64 want, .int .i64 t, .int .i64 i, .int .i64 R] w [] (fun y L' => y = .bool true ∧ L' = []) := by
  refine Con.of_vc tabOk 120 [.tmp 14] Try.func5 rfl Try.ntmps5 Try.results5 rfl (Own.nil' w) ?_
  repeat' ((conv => whnf); first
    | (show _ ∧ _; first | (simp only [hX, he, hx0, hg, hg', he2] at hx) | (obtain ⟨rfl, rfl⟩ := hx; refine ⟨rfl, ?_⟩) | (obtain ⟨b, rfl, rfl⟩ := hx; refine ⟨rfl, ?_⟩) | (obtain ⟨b, c, rfl, rfl⟩ := hx; refine ⟨rfl, ?_⟩) | (obtain ⟨p, F, sl, B, rfl, rfl⟩ := hx; refine ⟨rfl, ?_⟩) | (obtain ⟨rfl, rfl⟩ := hx; refine ⟨rfl, ?_⟩) | (obtain ⟨b, rfl, rfl⟩ := hx; refine ⟨rfl, ?_⟩) | (obtain ⟨b, c, rfl, rfl⟩ := hx; refine ⟨rfl, ?_⟩))
    | (show gsplit _ _ _; first | refine gsplit.tt ?_ | refine gsplit.ff ?_ | refine gsplit.dpos (by omega) ?_ | refine gsplit.dneg (by omega) ?_ | refine gsplit.npos (by omega) ?_ | refine gsplit.nneg (by omega) ?_ | refine gsplit.dec (fun hc => ?_) (fun hc => ?_) | refine gsplit.ndec (fun hc => ?_) (fun hc => ?_) | refine gsplit.eq (fun hc => ?_) (fun hc => ?_) | refine gsplit.neq (fun hc => ?_) (fun hc => ?_) | refine gsplit.mk (fun hb => ?_) (fun hb => ?_))
    | (show YQ _ _ _ _ _ _; first | refine qeqp Try.underlying26 ?_ | refine YQ.bits (.inl rfl) ?_ | refine YQ.bits (.inr (.inr (.inr rfl))) ?_ | refine YQ.remN (by omega) ?_ | refine YQ.quoN (by omega) ?_ | refine YQ.len tabOk rfl ?_ | refine YQ.idx tabOk rfl (by omega) ?_ | refine YQ.idxA tabOk rfl (by omega) ?_ | refine YQ.sliceA tabOk rfl (by omega) (by omega) ?_ | refine YQ.sliceAll tabOk rfl ?_ | refine YQ.load1 tabOk rfl 0 rfl rfl ?_ | refine YQ.load1 tabOk rfl 1 rfl rfl ?_ | refine YQ.load1 tabOk rfl 2 rfl rfl ?_ | refine YQ.load1 tabOk rfl 3 rfl rfl ?_ | refine YQ.load1 tabOk rfl 4 rfl rfl ?_ | refine YQ.load1 tabOk rfl 5 rfl rfl ?_ | refine YQ.load1 tabOk rfl 6 rfl rfl ?_ | refine YQ.load1 tabOk rfl 7 rfl rfl ?_ | refine YQ.loadF tabOk rfl 0 rfl rfl ?_ | refine YQ.loadF tabOk rfl 1 rfl rfl ?_ | refine YQ.loadF tabOk rfl 2 rfl rfl ?_ | refine YQ.loadF tabOk rfl 3 rfl rfl ?_ | refine YQ.loadF tabOk rfl 4 rfl rfl ?_ | refine YQ.loadF tabOk rfl 5 rfl rfl ?_ | refine YQ.loadF tabOk rfl 6 rfl rfl ?_ | refine YQ.loadF tabOk rfl 7 rfl rfl ?_ | refine YQ.loadA tabOk rfl 0 rfl rfl rfl ?_ | refine YQ.loadA tabOk rfl 1 rfl rfl rfl ?_ | refine YQ.loadA tabOk rfl 2 rfl rfl rfl ?_ | refine YQ.loadA tabOk rfl 3 rfl rfl rfl ?_ | refine YQ.loadA tabOk rfl 4 rfl rfl rfl ?_ | refine YQ.build tabOk rfl rfl rfl ?_ | refine YQ.eqF tabOk rfl rfl rfl ?_ | refine YQ.neF tabOk rfl rfl rfl ?_)
    | (show YC _ _ _ _ _ _ _; first | refine YC.conR [] [] rfl rfl (fun w _ _ => awake4_con w) (fun x L' hx => ?_) | refine YC.conR [] [] rfl rfl (fun w hw0 _ => laid_con a len cap w us hlen (Arr.later hw0 ha)) (fun x L' hx => ?_) | refine YC.conR [1, 2] _ rfl rfl (fun w hw0 hw => get_con _ _ 16 (by omega) X hB hl t i w hw) (fun x L' hx => ?_) | refine YC.conR [1, 2] _ rfl rfl (fun w hw0 hw => nested_con _ _ 16 (by omega) X hB hl s pg want w hw) (fun x L' hx => ?_) | refine YC.conR [1, 2] _ rfl rfl (fun w hw0 hw => put_con _ _ 16 (by omega) X hl t i ⟨true, true, band r R, f⟩ w hw) (fun x L' hx => ?_) | refine YC.conR [1, 2] _ rfl rfl (fun w hw0 hw => nested_con _ _ 16 (by omega) (putL 16 X t i ⟨true, true, band r R, f⟩) (By.put hB _ _ _) (putL_length hl _ _ _) s pg want w hw) (fun x L' hx => ?_))
    | (show YU _ _ _ _ _ _ _ _; first | refine YU.store1L tabOk rfl rfl 0 rfl rfl ?_ | refine YU.store1L tabOk rfl rfl 1 rfl rfl ?_ | refine YU.store1L tabOk rfl rfl 2 rfl rfl ?_ | refine YU.store1L tabOk rfl rfl 3 rfl rfl ?_ | refine YU.store1L tabOk rfl rfl 4 rfl rfl ?_ | refine YU.store1L tabOk rfl rfl 5 rfl rfl ?_ | refine YU.store1L tabOk rfl rfl 6 rfl rfl ?_ | refine YU.store1L tabOk rfl rfl 7 rfl rfl ?_ | refine YU.storeF tabOk rfl rfl rfl 0 rfl rfl ?_ | refine YU.storeF tabOk rfl rfl rfl 1 rfl rfl ?_ | refine YU.storeF tabOk rfl rfl rfl 2 rfl rfl ?_ | refine YU.storeF tabOk rfl rfl rfl 3 rfl rfl ?_ | refine YU.storeF tabOk rfl rfl rfl 4 rfl rfl ?_ | refine YU.storeF tabOk rfl rfl rfl 5 rfl rfl ?_ | refine YU.storeF tabOk rfl rfl rfl 6 rfl rfl ?_ | refine YU.storeF tabOk rfl rfl rfl 7 rfl rfl ?_ | refine YU.storeAL tabOk rfl rfl rfl 0 rfl rfl ?_ | refine YU.storeAL tabOk rfl rfl rfl 1 rfl rfl ?_ | refine YU.storeAL tabOk rfl rfl rfl 2 rfl rfl ?_ | refine YU.storeAL tabOk rfl rfl rfl 3 rfl rfl ?_ | refine YU.storeAL tabOk rfl rfl rfl 4 rfl rfl ?_)
    | (show Wr _ _ _; first | refine Wr.i64 (by omega) ?_ | refine Wr.u8 (by omega) ?_ | refine Wr.u16 (by omega) ?_ | refine Wr.u32 (by omega) ?_)
    | (show BIf _ _ _; first | refine BIf.pos rfl ?_ | refine BIf.neg rfl ?_)
    | (show Dr _ _ _ _ _ _ _ _ _; first | refine Dr.all (by kernel_rfl) ?_)
    | (show Fork _ _; first | refine Fork.mk ?_ ?_)
    | (show Vc.Fin _ _ _; first | refine Fin.take 0 (And.intro ?_ rfl))
    | intro b)
  all_goals first
    | (show Value.bool _ = Value.bool _; rfl)
    | contradiction
    | (exfalso; omega)
    | (exfalso; have h2 := h0 (by assumption); omega)
    | (exfalso; have h2 := h1 (by assumption) (by assumption); omega)
    | (have h2 := h0 (by assumption); show Value.bool _ = Value.bool _; congr 1; rw [decide_eq_true_eq]; omega)
    | (have h2 := h1 (by assumption) (by assumption); show Value.bool _ = Value.bool _; congr 1; rw [decide_eq_true_eq]; exact h2.2.2)
theorem walkLess_walk (a0 : Option Addr) (len0 cap0 n0 : Nat) {W : World} (rd0 : Rd Try.prog W n0 22 (Value.slice a0 len0 cap0).cells.toList) (a1 : Array Value) (n1 : Nat) (rd1 : Rd Try.prog W n1 24 (Value.agg a1).cells.toList) (pg : Int) (w2 : (Lit.int .i64 pg).wf = true) (want : Int) (w3 : (Lit.int .i64 want).wf = true) (t : Int) (w4 : (Lit.int .i64 t).wf = true) (i : Int) (w5 : (Lit.int .i64 i).wf = true) (R : Int) (w6 : (Lit.int .i64 R).wf = true) :
    Calls Try.prog 5 #[.slice a0 len0 cap0, .agg a1, .int .i64 pg, .int .i64 want, .int .i64 t, .int .i64 i, .int .i64 R] W fun e w' => e = .returned (.bool true) ∧ RowKit.Below W.heap.size W w' := by
  obtain ⟨us, h1, h2⟩ := rd_puts rd0
  obtain ⟨s, rfl⟩ := rd_space rd1
  have hl := (lay_in (us.take 200)).1
  obtain ⟨⟨xv, xl, r, f⟩, hx⟩ : ∃ x, getX 16 (lay (us.take 200)) t i = x := ⟨_, rfl⟩
  by_cases hR : getE 16 (lay (us.take 200)) t i = 0 ∧ xv = true ∧ xl = true ∧ s.fi < 0
  · obtain ⟨he, rfl, rfl, hs⟩ := hR
    refine (walkLess_goes _ hl (lay_in _).2 us rfl a0 len0 cap0 W h1 h2 s pg want t i R r f he hx hs _ rfl _ _ rfl rfl nst_no (fun h3 h4 => ?_)).law
    have hw := getE_wr he
    have hr : rightP true true (band r R) f := by
      by_cases hr : rightP true true (band r R) f
      · exact hr
      · exfalso
        unfold putE at h3
        rw [if_pos hw] at h3
        unfold encE at h3
        rw [if_neg hr] at h3
        exact absurd h3 (by decide)
    exact nst_less (less_put hl hx he hw hr) hs h4
  · exact (walkLess_ret _ hl (lay_in _).2 us rfl a0 len0 cap0 W h1 h2 s pg want t i R _ _ rfl hx hR).law
end Go.Proofs.Ytbohpchmofkllaa
