/- 'viceroylaw02.PteOnly' answers true at every list of acts, every place and every entry. Conditions: none beside the row's own. -/
import Derived.Test.YtfamidjdhahfiaaRows
import Derived.Test.YtfamidjdhahfiaaLawPtePlays
set_option linter.unusedVariables false
set_option linter.unusedSimpArgs false
set_option maxRecDepth 10000
set_option maxHeartbeats 40000000
namespace Go.Proofs.Ytfamidjdhahfiaa
open Vc Mem
theorem pdo_1 {n : Nat} {xs : List Int} {a : Pa} (h : a.d = 1) : pdo n xs a = putL n xs a.t a.i a.x := if_pos h
theorem all_ok (p F n : Nat) (hn : n ≤ 1024) (xs : List Int) (hx : By xs) (hl : xs.length = n * 64) (hC : Clean n xs) (t : Int) (ht : 0 ≤ t ∧ t < n) (w : World) (hw : Own w [ramE p F n, frE F xs]) : Con Try.prog 29 [.pointer (some ⟨p, 0, none⟩), .int .i64 t] w [ramE p F n, frE F xs]
    (fun y L' => ∃ b, y = .tuple #[.slice (some ⟨b, 0, none⟩) 32 32, .int .i64 0] ∧ L' = [ramE p F n, frE F xs, ⟨b, 67, rows etV (tkX n xs t 32)⟩]) := by
  refine (all_con p F n hn xs hx hl t w hw).mono (fun y L' h => ?_)
  rcases h with ⟨_, h⟩ | ⟨h, _⟩
  · exact h
  · exact absurd (clean_all hC ht) h
theorem only_own {xs : List Int} (hl : xs.length = 3 * 64) {t i : Int} {x : Et} (hP : wr 3 t i = 0 ∧ rightP x.v x.l x.r x.f) {k : Int} {j : Nat} (hk : k = t) (hj : (j : Int) = i) : EqP (etV (getX 3 (putL 3 xs t i x) k j)) (etV x) := by
  subst hk hj
  rw [put_getX hl _ _ x hP.1, if_pos ⟨hP, rfl, rfl⟩]
  exact ⟨rfl, rfl, rfl, rfl, trivial⟩
theorem only_rest {xs : List Int} (hl : xs.length = 3 * 64) {t i : Int} {x : Et} {k : Int} {j : Nat} (hk : 0 ≤ k ∧ k < 3) (hj : j < 32) (h : ¬ (wr 3 t i = 0 ∧ rightP x.v x.l x.r x.f) ∨ ¬ (k = t) ∨ ¬ ((j : Int) = i)) : EqP (etV (getX 3 (putL 3 xs t i x) k j)) (etV (getX 3 xs k j)) := by
  rw [put_getX hl _ _ x (wr_in (n := 3) hk hj), if_neg]
  · exact ⟨rfl, rfl, rfl, rfl, trivial⟩
  · rintro ⟨h1, h2, h3⟩
    rcases h with h | h | h
    · exact h h1
    · exact h h2.symm
    · exact h h3.symm
theorem pteOnly_con (a : Option Addr) (len cap : Nat) (w : World) (acts : List Ph) (hlen : acts.length = len) (ha : Arr w 8 phV a acts) (t i : Int) (x : Et) (e : Int) (he : putE 3 t i x = e) (hP : (e = 0 ∧ wr 3 t i = 0 ∧ rightP x.v x.l x.r x.f) ∨ (¬ e = 0 ∧ ¬ (wr 3 t i = 0 ∧ rightP x.v x.l x.r x.f))) :
    Con Try.prog 7 [.slice a len cap, .int .i64 t, .int .i64 i, etA x] w [] (fun y L' => y = .bool true ∧ L' = []) := by
  refine Con.of_vc tabOk 148 [.tmp 8] Try.func7 rfl Try.ntmps7 Try.results7 rfl (Own.nil' w) ?_
  repeat' ((conv => whnf); first
    | (show _ ∧ _; first | (simp only [he] at hx) | (obtain ⟨rfl, rfl⟩ := hx; refine ⟨rfl, ?_⟩) | (obtain ⟨b, rfl, rfl⟩ := hx; refine ⟨rfl, ?_⟩) | (obtain ⟨b, c, rfl, rfl⟩ := hx; refine ⟨rfl, ?_⟩))
    | (show gsplit _ _ _; first | refine gsplit.tt ?_ | refine gsplit.ff ?_ | refine gsplit.dpos (by omega) ?_ | refine gsplit.dneg (by omega) ?_ | refine gsplit.npos (by omega) ?_ | refine gsplit.nneg (by omega) ?_ | refine gsplit.dec (fun hc => ?_) (fun hc => ?_) | refine gsplit.ndec (fun hc => ?_) (fun hc => ?_) | refine gsplit.eq (fun hc => ?_) (fun hc => ?_) | refine gsplit.neq (fun hc => ?_) (fun hc => ?_))
    | (show YQ _ _ _ _ _ _; first | refine qeqp Try.underlying25 ?_ | (refine YQ.idxS tabOk rfl ha st.1 (List.getElem?_eq_getElem (by omega)) (by omega) (fun ad hd => ?_); obtain ⟨ab, ao, _ | am⟩ := ad) | refine YQ.loadSc tabOk hd rfl 0 rfl rfl ?_ | refine YQ.loadS tabOk hd rfl rfl ?_ | refine YQ.loadRow0 tabOk rfl 7 j rfl etV_len (tkX_at 3 _ _ (by omega)) (by omega) ?_ | refine YQ.loadRow0 tabOk rfl 4 j rfl etV_len (tkX_at 3 _ _ (by omega)) (by omega) ?_ | refine YQ.loadRow0 tabOk rfl 5 j rfl etV_len (tkX_at 3 _ _ (by omega)) (by omega) ?_ | refine YQ.loadRow0 tabOk rfl 6 j rfl etV_len (tkX_at 3 _ _ (by omega)) (by omega) ?_ | refine YQ.remN (by omega) ?_ | refine YQ.quoN (by omega) ?_ | refine YQ.len tabOk rfl ?_ | refine YQ.idx tabOk rfl (by omega) ?_ | refine YQ.idxA tabOk rfl (by omega) ?_ | refine YQ.sliceA tabOk rfl (by omega) (by omega) ?_ | refine YQ.sliceAll tabOk rfl ?_ | refine YQ.load1 tabOk rfl 0 rfl rfl ?_ | refine YQ.load1 tabOk rfl 1 rfl rfl ?_ | refine YQ.load1 tabOk rfl 2 rfl rfl ?_ | refine YQ.load1 tabOk rfl 3 rfl rfl ?_ | refine YQ.load1 tabOk rfl 4 rfl rfl ?_ | refine YQ.load1 tabOk rfl 5 rfl rfl ?_ | refine YQ.loadF tabOk rfl 0 rfl rfl ?_ | refine YQ.loadF tabOk rfl 1 rfl rfl ?_ | refine YQ.loadF tabOk rfl 2 rfl rfl ?_ | refine YQ.loadF tabOk rfl 3 rfl rfl ?_ | refine YQ.loadF tabOk rfl 4 rfl rfl ?_ | refine YQ.loadF tabOk rfl 5 rfl rfl ?_ | refine YQ.loadA tabOk rfl 0 rfl rfl rfl ?_ | refine YQ.loadA tabOk rfl 1 rfl rfl rfl ?_ | refine YQ.loadA tabOk rfl 2 rfl rfl rfl ?_ | refine YQ.loadA tabOk rfl 3 rfl rfl rfl ?_ | refine YQ.loadA tabOk rfl 4 rfl rfl rfl ?_ | refine YQ.build tabOk rfl rfl rfl ?_ | refine YQ.eqF tabOk rfl rfl rfl ?_ | refine YQ.neF tabOk rfl rfl rfl ?_)
    | (show YC _ _ _ _ _ _ _; first | refine YC.conR [] [] rfl rfl (fun w _ _ => awake2_con w) (fun x L' hx => ?_) | refine YC.conR [] [] rfl rfl (fun w _ _ => ramNew_ok 3 3 (by omega) w) (fun x L' hx => ?_) | refine YC.conR [] [] rfl rfl (fun w _ _ => refNew_ok 3 3 (by omega) w) (fun x L' hx => ?_) | refine YC.conR [1, 2, 3, 4] _ rfl rfl (fun w hw0 hw => pdoes_ph _ _ _ _ 3 (by omega) st.2 hst.2.2.1 hst.2.1 _ w hw) (fun x L' hx => ?_) | refine YC.conR [1, 2] _ rfl rfl (fun w hw0 hw => all_ok _ _ 3 (by omega) st.2 hst.2.2.1 hst.2.1 hst.2.2.2 _ (by omega) w hw) (fun x L' hx => ?_) | refine YC.conR [1, 2] _ rfl rfl (fun w hw0 hw => all_ok _ _ 3 (by omega) (putL 3 st.2 t i x) (By.put hst.2.2.1 t i x) (putL_length hst.2.1 t i x) (clean_put hst.2.1 hst.2.2.2 t i x) _ (by omega) w hw) (fun x L' hx => ?_) | refine YC.conR [1, 2] _ rfl rfl (fun w hw0 hw => put_con _ _ 3 (by omega) st.2 hst.2.1 t i x w hw) (fun x L' hx => ?_))
    | (show YU _ _ _ _ _ _ _ _; first | refine YU.store1L tabOk rfl rfl 0 rfl rfl ?_ | refine YU.store1L tabOk rfl rfl 1 rfl rfl ?_ | refine YU.store1L tabOk rfl rfl 2 rfl rfl ?_ | refine YU.store1L tabOk rfl rfl 3 rfl rfl ?_ | refine YU.store1L tabOk rfl rfl 4 rfl rfl ?_ | refine YU.storeF tabOk rfl rfl rfl 0 rfl rfl ?_ | refine YU.storeF tabOk rfl rfl rfl 1 rfl rfl ?_ | refine YU.storeF tabOk rfl rfl rfl 2 rfl rfl ?_ | refine YU.storeF tabOk rfl rfl rfl 3 rfl rfl ?_ | refine YU.storeF tabOk rfl rfl rfl 4 rfl rfl ?_ | refine YU.storeF tabOk rfl rfl rfl 5 rfl rfl ?_ | refine YU.storeAL tabOk rfl rfl rfl 0 rfl rfl ?_ | refine YU.storeAL tabOk rfl rfl rfl 1 rfl rfl ?_ | refine YU.storeAL tabOk rfl rfl rfl 2 rfl rfl ?_ | refine YU.storeAL tabOk rfl rfl rfl 3 rfl rfl ?_ | refine YU.storeAL tabOk rfl rfl rfl 4 rfl rfl ?_)
    | (show Wr _ _ _; first | refine Wr.i64 (by omega) ?_ | refine Wr.u8 (by omega) ?_ | refine Wr.u16 (by omega) ?_ | refine Wr.u32 (by omega) ?_)
    | (show BIf _ _ _; first | refine BIf.pos rfl ?_ | refine BIf.neg rfl ?_)
    | (show Lp _ _ _ _ _; first | refine Lp.mk (α := Nat × List Int) [14] [0, 1, 2, 7, 9, 10, 12] _ (fun x => [.int .i64 x.1]) (fun y => [⟨_, _, etV x⟩, ramE _ _ 3, frE _ y.2, refE _ _ 3, byE _ y.2]) (fun x => x.1 ≤ 60 ∧ x.2.length = 3 * 64 ∧ By x.2 ∧ Clean 3 x.2) (fun x => 60 - x.1) rfl rfl ⟨0, List.replicate (3 * 64) 0⟩ ⟨by simp, by simp, By.rep _, clean_0 3⟩ rfl ⟨_, rfl⟩ (fun st hst => ?_) | refine Lp.subK (α := Nat) [23] [1, 2, 7, 9, 10, 15, 19, 20, 21] _ (fun i => [.int .i64 i]) _ (fun i => i ≤ 32) (fun i => 32 - i) rfl rfl 0 (by omega) rfl ⟨[0, 1, 2, 3, 4, 5, 6, 8], rfl, rfl⟩ (fun j hj => ?_) | refine Lp.subK (α := Nat) [23] [1, 2, 7, 9, 10, 15, 19, 20, 21] _ (fun i => [.int .i64 i]) _ (fun i => i ≤ 32) (fun i => 32 - i) rfl rfl 0 (by omega) rfl ⟨[0, 1, 2, 3, 4, 5, 6, 7], rfl, rfl⟩ (fun j hj => ?_) | (refine Lp.prune [1, 2, 7, 9, 10, 15, 19, 20] _ _ rfl ⟨[0, 1, 2, 3, 4, 5, 6], rfl, rfl⟩ ?_; refine Lp.rounds 4 ?_) | (refine Lp.prune [1, 2, 7, 9, 10, 15, 16] _ _ rfl ⟨[0, 1, 2, 5], rfl, rfl⟩ ?_; refine Lp.rounds 4 ?_))
    | (show Dr _ _ _ _ _ _ _ _ _; first | refine Dr.all (by kernel_rfl) ?_)
    | (show Vc.Fin _ _ _; first | refine Fin.take 0 (And.intro ?_ rfl))
    | refine ⟨⟨st.1 + 1, pdo 3 st.2 _⟩, ⟨by show st.1 + 1 ≤ 60; omega, pdo_length hst.2.1 _, By.pdo hst.2.2.1 _, (by rw [pdo_1 (by assumption)]; exact clean_put hst.2.1 hst.2.2.2 _ _ _)⟩, by show 60 - (st.1 + 1) < 60 - st.1; omega, rfl, ⟨_, rfl⟩⟩
    | refine ⟨⟨st.1 + 1, st.2⟩, ⟨by show st.1 + 1 ≤ 60; omega, hst.2.1, hst.2.2.1, hst.2.2.2⟩, by show 60 - (st.1 + 1) < 60 - st.1; omega, rfl, ⟨_, rfl⟩⟩
    | refine ⟨j + 1, by omega, by omega, rfl, [0, 1, 2, 3, 4, 5, 6, 7], rfl, rfl⟩
    | intro b)
  all_goals first
    | (show Value.bool _ = Value.bool _; rfl)
    | contradiction
    | (exfalso; omega)
    | (exfalso; exact hc (only_own hst.2.1 (by rcases hP with h | h; exact h.2; exact absurd (by assumption) h.1) (by omega) (by omega)))
    | (exfalso; exact hc (only_rest hst.2.1 (by omega) (by omega) (by first | exact .inr (.inr (by assumption)) | exact .inr (.inl (by assumption)) | (rcases hP with h | h; exact absurd h.1 (by assumption); exact .inl h.2))))
theorem pteOnly_walk (a0 : Option Addr) (len0 cap0 n0 : Nat) {W : World} (rd0 : Rd Try.prog W n0 65 (Value.slice a0 len0 cap0).cells.toList) (t : Int) (w1 : (Lit.int .i64 t).wf = true) (i : Int) (w2 : (Lit.int .i64 i).wf = true) (a3 : Array Value) (n3 : Nat) (rd3 : Rd Try.prog W n3 67 (Value.agg a3).cells.toList) :
    Calls Try.prog 7 #[.slice a0 len0 cap0, .int .i64 t, .int .i64 i, .agg a3] W fun e w' => e = .returned (.bool true) ∧ RowKit.Below W.heap.size W w' := by
  obtain ⟨acts, h1, h4⟩ := rd_pacts rd0
  obtain ⟨a, b, c, d, h, -⟩ := rd_entry rd3
  have : a3 = (etV ⟨a, b, c, d⟩).toArray := by apply Array.ext'; exact h
  subst this
  refine (pteOnly_con a0 len0 cap0 W acts h1 h4 t i ⟨a, b, c, d⟩ (putE 3 t i ⟨a, b, c, d⟩) rfl ?_).law
  by_cases hw : wr 3 t i = 0
  · by_cases hr : rightP a b c d
    · exact .inl ⟨(if_pos hw).trans (if_pos hr), hw, hr⟩
    · have e : putE 3 t i ⟨a, b, c, d⟩ = 20 := (if_pos hw).trans (if_neg hr)
      exact .inr ⟨by rw [e]; decide, fun h => hr h.2⟩
  · have e : putE 3 t i ⟨a, b, c, d⟩ = wr 3 t i := if_neg hw
    exact .inr ⟨by rw [e]; exact hw, fun h => hw h.1⟩
end Go.Proofs.Ytfamidjdhahfiaa
