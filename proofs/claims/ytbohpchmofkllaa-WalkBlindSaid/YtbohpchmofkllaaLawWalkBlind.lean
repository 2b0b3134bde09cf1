/- 'viceroylaw04.WalkBlind' answers true at every input. Conditions: none beside the row's own. -/
import Derived.Test.YtbohpchmofkllaaWalkR
import Derived.Test.YtbohpchmofkllaaWalkP
set_option linter.unusedVariables false
set_option linter.unusedSimpArgs false
set_option maxRecDepth 10000
set_option maxHeartbeats 8000000
namespace Go.Proofs.Ytbohpchmofkllaa
open Vc Mem
/-- A byte that is stored elsewhere turns no entry of a table. -/
theorem word_blind {n : Nat} {xs : List Int} (hl : xs.length = n * 64) {at_ v t i : Int} (h0 : 0 ≤ at_) (hne : ¬ at_ / 64 = t) (hw : wr n t i = 0) : ldV (storeL n xs at_ 1 v) (ea t i).toNat 2 = ldV xs (ea t i).toNat 2 := by
  have h1 := wr_0 hw
  unfold storeL
  split
  · rename_i hb
    have hf := (fine_of hb).room
    have e1 : (1 : Int).toNat = 1 := rfl
    have hr : at_.toNat + (1 : Int).toNat ≤ xs.length := by rw [e1]; omega
    rw [ld2, ld2, gt_st (.inl rfl) hr, gt_st (.inl rfl) hr]
    simp only [e1]
    rw [if_neg (by unfold ea; omega), if_neg (by unfold ea; omega)]
  · rfl
theorem get_blind {n : Nat} {xs : List Int} (hl : xs.length = n * 64) {at_ v t : Int} (h0 : 0 ≤ at_) (hne : ¬ at_ / 64 = t) (i : Int) : getX n (storeL n xs at_ 1 v) t i = getX n xs t i ∧ getE n (storeL n xs at_ 1 v) t i = getE n xs t i := by
  unfold getX getE
  by_cases hw : wr n t i = 0
  · rw [if_pos hw, if_pos hw, if_pos hw, if_pos hw, word_blind hl h0 hne hw]
    exact ⟨rfl, rfl⟩
  · rw [if_neg hw, if_neg hw, if_neg hw, if_neg hw]
    exact ⟨rfl, rfl⟩
theorem stp_blind {n : Nat} {xs : List Int} (hl : xs.length = n * 64) {at_ v t : Int} (h0 : 0 ≤ at_) (hne : ¬ at_ / 64 = t) (pg lv : Int) : stpK n (storeL n xs at_ 1 v) t pg lv = stpK n xs t pg lv ∧ stpX n (storeL n xs at_ 1 v) t pg lv = stpX n xs t pg lv := by
  obtain ⟨a1, a2⟩ := get_blind (v := v) hl h0 hne (indexI pg lv)
  have hk : stpK n (storeL n xs at_ 1 v) t pg lv = stpK n xs t pg lv := by
    unfold stpK
    rw [a1, a2]
  refine ⟨hk, ?_⟩
  unfold stpX
  rw [hk, a1]
theorem stpK_get {n : Nat} {xs : List Int} {t pg lv : Int} (h : stpK n xs t pg lv = 0) : getE n xs t (indexI pg lv) = 0 ∧ stpX n xs t pg lv = getX n xs t (indexI pg lv) := by
  refine ⟨?_, if_pos h⟩
  unfold stpK at h
  split at h
  · omega
  · split at h
    · omega
    · rename_i h2
      omega
theorem sgl_blind {n : Nat} {xs : List Int} (hl : xs.length = n * 64) {at_ v root pg : Int} (h0 : 0 ≤ at_) (h1 : ¬ at_ / 64 = root) (h2 : ¬ (getE n xs root (indexI pg 0) = 0 ∧ at_ / 64 = (getX n xs root (indexI pg 0)).f)) :
    sgl n (storeL n xs at_ 1 v) root pg = sgl n xs root pg := by
  obtain ⟨a1, a2⟩ := stp_blind (v := v) hl h0 h1 pg 0
  unfold sgl
  rw [a1, a2]
  by_cases hk : stpK n xs root pg 0 = 0
  · obtain ⟨b1, b2⟩ := stpK_get hk
    rw [b2]
    obtain ⟨c1, c2⟩ := stp_blind (v := v) hl h0 (fun h => h2 ⟨b1, h⟩) pg 1
    rw [c1, c2]
  · simp only [hk, not_false_eq_true, if_true]
theorem tdiv_neg {a : Int} (h : a < 0) : a.tdiv 64 = -((-a) / 64) := by
  have h1 : (-a).tdiv 64 = (-a) / 64 := Int.tdiv_eq_ediv_of_nonneg (by omega)
  rw [← h1, Int.neg_tdiv, Int.neg_neg]
theorem walkBlind_ret (X : List Int) (hl : X.length = 16 * 64) (hB : By X) (us : List Pu) (hX : lay (us.take 200) = X) (a : Option Addr) (len cap : Nat) (w : World) (hlen : us.length = len) (ha : Arr w 8 puV a us) (root pg at_ v : Int) (hat : -9223372036854775808 ≤ at_ ∧ at_ ≤ 9223372036854775807)
    (e xf : Int) (he : getE 16 X root (indexI pg 0) = e) (hxf : (getX 16 X root (indexI pg 0)).f = xf) (hR : at_ < 0 ∨ (0 ≤ at_ ∧ (at_ / 64 = root ∨ (e = 0 ∧ at_ / 64 = xf)))) :
    Con Try.prog 6 [.slice a len cap, .int .i64 root, .int .i64 pg, .int .i64 at_, .int .u32 v] w [] (fun y L' => y = .bool true ∧ L' = []) := by
  have hq : at_ < 0 → at_.tdiv 64 = -((-at_) / 64) := tdiv_neg
  rcases hR with hneg | hR
  · have hq := tdiv_neg hneg
    refine Con.of_vc tabOk 94 [.tmp 10] Try.func6 rfl Try.ntmps6 Try.results6 rfl (Own.nil' w) ?_
    repeat' ((conv => whnf); first
      | (show _ ∧ _; first | (simp only [hX] at hx) | (obtain ⟨rfl, rfl⟩ := hx; refine ⟨rfl, ?_⟩) | (obtain ⟨b, rfl, rfl⟩ := hx; refine ⟨rfl, ?_⟩) | (obtain ⟨b, c, rfl, rfl⟩ := hx; refine ⟨rfl, ?_⟩) | (obtain ⟨p, F, sl, B, rfl, rfl⟩ := hx; refine ⟨rfl, ?_⟩) | (obtain ⟨rfl, rfl⟩ := hx; refine ⟨rfl, ?_⟩) | (obtain ⟨b, rfl, rfl⟩ := hx; refine ⟨rfl, ?_⟩) | (obtain ⟨b, c, rfl, rfl⟩ := hx; refine ⟨rfl, ?_⟩))
      | (show gsplit _ _ _; first | refine gsplit.tt ?_ | refine gsplit.ff ?_ | refine gsplit.dpos (by omega) ?_ | refine gsplit.dneg (by omega) ?_ | refine gsplit.npos (by omega) ?_ | refine gsplit.nneg (by omega) ?_ | refine gsplit.dec (fun hc => ?_) (fun hc => ?_) | refine gsplit.ndec (fun hc => ?_) (fun hc => ?_) | refine gsplit.eq (fun hc => ?_) (fun hc => ?_) | refine gsplit.neq (fun hc => ?_) (fun hc => ?_) | refine gsplit.mk (fun hb => ?_) (fun hb => ?_))
      | (show YQ _ _ _ _ _ _; first | refine qeqp Try.underlying26 ?_ | refine YQ.quo (by decide) ?_ | refine YQ.remN (by omega) ?_ | refine YQ.quoN (by omega) ?_ | refine YQ.len tabOk rfl ?_ | refine YQ.idx tabOk rfl (by omega) ?_ | refine YQ.idxA tabOk rfl (by omega) ?_ | refine YQ.sliceA tabOk rfl (by omega) (by omega) ?_ | refine YQ.sliceAll tabOk rfl ?_ | refine YQ.load1 tabOk rfl 0 rfl rfl ?_ | refine YQ.load1 tabOk rfl 1 rfl rfl ?_ | refine YQ.load1 tabOk rfl 2 rfl rfl ?_ | refine YQ.load1 tabOk rfl 3 rfl rfl ?_ | refine YQ.load1 tabOk rfl 4 rfl rfl ?_ | refine YQ.load1 tabOk rfl 5 rfl rfl ?_ | refine YQ.load1 tabOk rfl 6 rfl rfl ?_ | refine YQ.load1 tabOk rfl 7 rfl rfl ?_ | refine YQ.loadF tabOk rfl 0 rfl rfl ?_ | refine YQ.loadF tabOk rfl 1 rfl rfl ?_ | refine YQ.loadF tabOk rfl 2 rfl rfl ?_ | refine YQ.loadF tabOk rfl 3 rfl rfl ?_ | refine YQ.loadF tabOk rfl 4 rfl rfl ?_ | refine YQ.loadF tabOk rfl 5 rfl rfl ?_ | refine YQ.loadF tabOk rfl 6 rfl rfl ?_ | refine YQ.loadF tabOk rfl 7 rfl rfl ?_ | refine YQ.loadA tabOk rfl 0 rfl rfl rfl ?_ | refine YQ.loadA tabOk rfl 1 rfl rfl rfl ?_ | refine YQ.loadA tabOk rfl 2 rfl rfl rfl ?_ | refine YQ.loadA tabOk rfl 3 rfl rfl rfl ?_ | refine YQ.loadA tabOk rfl 4 rfl rfl rfl ?_ | refine YQ.build tabOk rfl rfl rfl ?_ | refine YQ.eqF tabOk rfl rfl rfl ?_ | refine YQ.neF tabOk rfl rfl rfl ?_)
      | (show YC _ _ _ _ _ _ _; first | refine YC.conR [] [] rfl rfl (fun w _ _ => awake4_con w) (fun x L' hx => ?_) | refine YC.conR [] [] rfl rfl (fun w hw0 _ => laid_con a len cap w us hlen (Arr.later hw0 ha)) (fun x L' hx => ?_) | refine YC.conR [0, 1] _ rfl rfl (fun w hw0 hw => single_con _ _ 16 (by omega) X hB hl root pg w hw) (fun x L' hx => ?_) | refine YC.conR [] [] rfl rfl (fun w _ _ => index_ref pg 0 w) (fun x L' hx => ?_) | refine YC.conR [2, 3] _ rfl rfl (fun w hw0 hw => rget_con _ _ 16 (by omega) X hB hl root (indexI pg 0) w hw) (fun x L' hx => ?_))
      | (show YU _ _ _ _ _ _ _ _; first | refine YU.store1L tabOk rfl rfl 0 rfl rfl ?_ | refine YU.store1L tabOk rfl rfl 1 rfl rfl ?_ | refine YU.store1L tabOk rfl rfl 2 rfl rfl ?_ | refine YU.store1L tabOk rfl rfl 3 rfl rfl ?_ | refine YU.store1L tabOk rfl rfl 4 rfl rfl ?_ | refine YU.store1L tabOk rfl rfl 5 rfl rfl ?_ | refine YU.store1L tabOk rfl rfl 6 rfl rfl ?_ | refine YU.store1L tabOk rfl rfl 7 rfl rfl ?_ | refine YU.storeF tabOk rfl rfl rfl 0 rfl rfl ?_ | refine YU.storeF tabOk rfl rfl rfl 1 rfl rfl ?_ | refine YU.storeF tabOk rfl rfl rfl 2 rfl rfl ?_ | refine YU.storeF tabOk rfl rfl rfl 3 rfl rfl ?_ | refine YU.storeF tabOk rfl rfl rfl 4 rfl rfl ?_ | refine YU.storeF tabOk rfl rfl rfl 5 rfl rfl ?_ | refine YU.storeF tabOk rfl rfl rfl 6 rfl rfl ?_ | refine YU.storeF tabOk rfl rfl rfl 7 rfl rfl ?_ | refine YU.storeAL tabOk rfl rfl rfl 0 rfl rfl ?_ | refine YU.storeAL tabOk rfl rfl rfl 1 rfl rfl ?_ | refine YU.storeAL tabOk rfl rfl rfl 2 rfl rfl ?_ | refine YU.storeAL tabOk rfl rfl rfl 3 rfl rfl ?_ | refine YU.storeAL tabOk rfl rfl rfl 4 rfl rfl ?_)
      | (show Wr _ _ _; first | refine Wr.i64 (by rw [hq]; omega) ?_ | refine Wr.i64 (by omega) ?_ | refine Wr.u8 (by omega) ?_ | refine Wr.u16 (by omega) ?_ | refine Wr.u32 (by omega) ?_)
      | (show BIf _ _ _; first | refine BIf.pos rfl ?_ | refine BIf.neg rfl ?_)
      | (show Dr _ _ _ _ _ _ _ _ _; first | refine Dr.all (by kernel_rfl) ?_)
      | (show Fork _ _; first | refine Fork.mk ?_ ?_)
      | (show Vc.Fin _ _ _; first | refine Fin.take 0 (And.intro ?_ rfl))
      | intro b)
    all_goals first
      | (show Value.bool _ = Value.bool _; rfl)
      | contradiction
      | (exfalso; omega)
  · refine Con.of_vc tabOk 94 [.tmp 10] Try.func6 rfl Try.ntmps6 Try.results6 rfl (Own.nil' w) ?_
    repeat' ((conv => whnf); first
      | (show _ ∧ _; first | (simp only [hX, he] at hx) | (obtain ⟨rfl, rfl⟩ := hx; refine ⟨rfl, ?_⟩) | (obtain ⟨b, rfl, rfl⟩ := hx; refine ⟨rfl, ?_⟩) | (obtain ⟨b, c, rfl, rfl⟩ := hx; refine ⟨rfl, ?_⟩) | (obtain ⟨p, F, sl, B, rfl, rfl⟩ := hx; refine ⟨rfl, ?_⟩) | (obtain ⟨rfl, rfl⟩ := hx; refine ⟨rfl, ?_⟩) | (obtain ⟨b, rfl, rfl⟩ := hx; refine ⟨rfl, ?_⟩) | (obtain ⟨b, c, rfl, rfl⟩ := hx; refine ⟨rfl, ?_⟩))
      | (show gsplit _ _ _; first | refine gsplit.tt ?_ | refine gsplit.ff ?_ | refine gsplit.dpos (by omega) ?_ | refine gsplit.dneg (by omega) ?_ | refine gsplit.npos (by omega) ?_ | refine gsplit.nneg (by omega) ?_ | refine gsplit.dec (fun hc => ?_) (fun hc => ?_) | refine gsplit.ndec (fun hc => ?_) (fun hc => ?_) | refine gsplit.eq (fun hc => ?_) (fun hc => ?_) | refine gsplit.neq (fun hc => ?_) (fun hc => ?_) | refine gsplit.mk (fun hb => ?_) (fun hb => ?_))
      | (show YQ _ _ _ _ _ _; first | refine qeqp Try.underlying26 ?_ | refine YQ.remN (by omega) ?_ | refine YQ.quoN (by omega) ?_ | refine YQ.len tabOk rfl ?_ | refine YQ.idx tabOk rfl (by omega) ?_ | refine YQ.idxA tabOk rfl (by omega) ?_ | refine YQ.sliceA tabOk rfl (by omega) (by omega) ?_ | refine YQ.sliceAll tabOk rfl ?_ | refine YQ.load1 tabOk rfl 0 rfl rfl ?_ | refine YQ.load1 tabOk rfl 1 rfl rfl ?_ | refine YQ.load1 tabOk rfl 2 rfl rfl ?_ | refine YQ.load1 tabOk rfl 3 rfl rfl ?_ | refine YQ.load1 tabOk rfl 4 rfl rfl ?_ | refine YQ.load1 tabOk rfl 5 rfl rfl ?_ | refine YQ.load1 tabOk rfl 6 rfl rfl ?_ | refine YQ.load1 tabOk rfl 7 rfl rfl ?_ | refine YQ.loadF tabOk rfl 0 rfl rfl ?_ | refine YQ.loadF tabOk rfl 1 rfl rfl ?_ | refine YQ.loadF tabOk rfl 2 rfl rfl ?_ | refine YQ.loadF tabOk rfl 3 rfl rfl ?_ | refine YQ.loadF tabOk rfl 4 rfl rfl ?_ | refine YQ.loadF tabOk rfl 5 rfl rfl ?_ | refine YQ.loadF tabOk rfl 6 rfl rfl ?_ | refine YQ.loadF tabOk rfl 7 rfl rfl ?_ | refine YQ.loadA tabOk rfl 0 rfl rfl rfl ?_ | refine YQ.loadA tabOk rfl 1 rfl rfl rfl ?_ | refine YQ.loadA tabOk rfl 2 rfl rfl rfl ?_ | refine YQ.loadA tabOk rfl 3 rfl rfl rfl ?_ | refine YQ.loadA tabOk rfl 4 rfl rfl rfl ?_ | refine YQ.build tabOk rfl rfl rfl ?_ | refine YQ.eqF tabOk rfl rfl rfl ?_ | refine YQ.neF tabOk rfl rfl rfl ?_)
      | (show YC _ _ _ _ _ _ _; first | refine YC.conR [] [] rfl rfl (fun w _ _ => awake4_con w) (fun x L' hx => ?_) | refine YC.conR [] [] rfl rfl (fun w hw0 _ => laid_con a len cap w us hlen (Arr.later hw0 ha)) (fun x L' hx => ?_) | refine YC.conR [0, 1] _ rfl rfl (fun w hw0 hw => single_con _ _ 16 (by omega) X hB hl root pg w hw) (fun x L' hx => ?_) | refine YC.conR [] [] rfl rfl (fun w _ _ => index_ref pg 0 w) (fun x L' hx => ?_) | refine YC.conR [2, 3] _ rfl rfl (fun w hw0 hw => rget_con _ _ 16 (by omega) X hB hl root (indexI pg 0) w hw) (fun x L' hx => ?_))
      | (show YU _ _ _ _ _ _ _ _; first | refine YU.store1L tabOk rfl rfl 0 rfl rfl ?_ | refine YU.store1L tabOk rfl rfl 1 rfl rfl ?_ | refine YU.store1L tabOk rfl rfl 2 rfl rfl ?_ | refine YU.store1L tabOk rfl rfl 3 rfl rfl ?_ | refine YU.store1L tabOk rfl rfl 4 rfl rfl ?_ | refine YU.store1L tabOk rfl rfl 5 rfl rfl ?_ | refine YU.store1L tabOk rfl rfl 6 rfl rfl ?_ | refine YU.store1L tabOk rfl rfl 7 rfl rfl ?_ | refine YU.storeF tabOk rfl rfl rfl 0 rfl rfl ?_ | refine YU.storeF tabOk rfl rfl rfl 1 rfl rfl ?_ | refine YU.storeF tabOk rfl rfl rfl 2 rfl rfl ?_ | refine YU.storeF tabOk rfl rfl rfl 3 rfl rfl ?_ | refine YU.storeF tabOk rfl rfl rfl 4 rfl rfl ?_ | refine YU.storeF tabOk rfl rfl rfl 5 rfl rfl ?_ | refine YU.storeF tabOk rfl rfl rfl 6 rfl rfl ?_ | refine YU.storeF tabOk rfl rfl rfl 7 rfl rfl ?_ | refine YU.storeAL tabOk rfl rfl rfl 0 rfl rfl ?_ | refine YU.storeAL tabOk rfl rfl rfl 1 rfl rfl ?_ | refine YU.storeAL tabOk rfl rfl rfl 2 rfl rfl ?_ | refine YU.storeAL tabOk rfl rfl rfl 3 rfl rfl ?_ | refine YU.storeAL tabOk rfl rfl rfl 4 rfl rfl ?_)
      | (show Wr _ _ _; first | refine Wr.i64 (by omega) ?_ | refine Wr.u8 (by omega) ?_ | refine Wr.u16 (by omega) ?_ | refine Wr.u32 (by omega) ?_)
      | (show BIf _ _ _; first | refine BIf.pos rfl ?_ | refine BIf.neg rfl ?_)
      | (show Dr _ _ _ _ _ _ _ _ _; first | refine Dr.all (by kernel_rfl) ?_)
      | (show Fork _ _; first | refine Fork.mk ?_ ?_)
      | (show Vc.Fin _ _ _; first | refine Fin.take 0 (And.intro ?_ rfl))
      | intro b)
    all_goals first
      | (show Value.bool _ = Value.bool _; rfl)
      | contradiction
      | (exfalso; omega)
      | (exfalso; simp only [hxf] at hc; omega)
theorem walkBlind_goes (X : List Int) (hl : X.length = 16 * 64) (hB : By X) (us : List Pu) (hX : lay (us.take 200) = X) (a : Option Addr) (len cap : Nat) (w : World) (hlen : us.length = len) (ha : Arr w 8 puV a us) (root pg at_ v : Int) (hat : 0 ≤ at_ ∧ at_ ≤ 9223372036854775807) (hv : 0 ≤ v ∧ v ≤ 4294967295)
    (h1 : ¬ at_ / 64 = root) (h2 : ¬ (getE 16 X root (indexI pg 0) = 0 ∧ at_ / 64 = (getX 16 X root (indexI pg 0)).f)) :
    Con Try.prog 6 [.slice a len cap, .int .i64 root, .int .i64 pg, .int .i64 at_, .int .u32 v] w [] (fun y L' => y = .bool true ∧ L' = []) := by
  have hs := sgl_blind (v := v) hl hat.1 h1 h2
  refine Con.of_vc tabOk 94 [.tmp 10] Try.func6 rfl Try.ntmps6 Try.results6 rfl (Own.nil' w) ?_
  repeat' ((conv => whnf); first
    | (show _ ∧ _; first | (simp only [hX, hs] at hx) | (obtain ⟨rfl, rfl⟩ := hx; refine ⟨rfl, ?_⟩) | (obtain ⟨b, rfl, rfl⟩ := hx; refine ⟨rfl, ?_⟩) | (obtain ⟨b, c, rfl, rfl⟩ := hx; refine ⟨rfl, ?_⟩) | (obtain ⟨p, F, sl, B, rfl, rfl⟩ := hx; refine ⟨rfl, ?_⟩) | (obtain ⟨rfl, rfl⟩ := hx; refine ⟨rfl, ?_⟩) | (obtain ⟨b, rfl, rfl⟩ := hx; refine ⟨rfl, ?_⟩) | (obtain ⟨b, c, rfl, rfl⟩ := hx; refine ⟨rfl, ?_⟩))
    | (show gsplit _ _ _; first | refine gsplit.tt ?_ | refine gsplit.ff ?_ | refine gsplit.dpos (by omega) ?_ | refine gsplit.dneg (by omega) ?_ | refine gsplit.npos (by omega) ?_ | refine gsplit.nneg (by omega) ?_ | refine gsplit.dec (fun hc => ?_) (fun hc => ?_) | refine gsplit.ndec (fun hc => ?_) (fun hc => ?_) | refine gsplit.eq (fun hc => ?_) (fun hc => ?_) | refine gsplit.neq (fun hc => ?_) (fun hc => ?_) | refine gsplit.mk (fun hb => ?_) (fun hb => ?_))
    | (show YQ _ _ _ _ _ _; first | refine qeqp Try.underlying26 ?_ | refine YQ.remN (by omega) ?_ | refine YQ.quoN (by omega) ?_ | refine YQ.len tabOk rfl ?_ | refine YQ.idx tabOk rfl (by omega) ?_ | refine YQ.idxA tabOk rfl (by omega) ?_ | refine YQ.sliceA tabOk rfl (by omega) (by omega) ?_ | refine YQ.sliceAll tabOk rfl ?_ | refine YQ.load1 tabOk rfl 0 rfl rfl ?_ | refine YQ.load1 tabOk rfl 1 rfl rfl ?_ | refine YQ.load1 tabOk rfl 2 rfl rfl ?_ | refine YQ.load1 tabOk rfl 3 rfl rfl ?_ | refine YQ.load1 tabOk rfl 4 rfl rfl ?_ | refine YQ.load1 tabOk rfl 5 rfl rfl ?_ | refine YQ.load1 tabOk rfl 6 rfl rfl ?_ | refine YQ.load1 tabOk rfl 7 rfl rfl ?_ | refine YQ.loadF tabOk rfl 0 rfl rfl ?_ | refine YQ.loadF tabOk rfl 1 rfl rfl ?_ | refine YQ.loadF tabOk rfl 2 rfl rfl ?_ | refine YQ.loadF tabOk rfl 3 rfl rfl ?_ | refine YQ.loadF tabOk rfl 4 rfl rfl ?_ | refine YQ.loadF tabOk rfl 5 rfl rfl ?_ | refine YQ.loadF tabOk rfl 6 rfl rfl ?_ | refine YQ.loadF tabOk rfl 7 rfl rfl ?_ | refine YQ.loadA tabOk rfl 0 rfl rfl rfl ?_ | refine YQ.loadA tabOk rfl 1 rfl rfl rfl ?_ | refine YQ.loadA tabOk rfl 2 rfl rfl rfl ?_ | refine YQ.loadA tabOk rfl 3 rfl rfl rfl ?_ | refine YQ.loadA tabOk rfl 4 rfl rfl rfl ?_ | refine YQ.build tabOk rfl rfl rfl ?_ | refine YQ.eqF tabOk rfl rfl rfl ?_ | refine YQ.neF tabOk rfl rfl rfl ?_)
    | (show YC _ _ _ _ _ _ _; first | refine YC.conR [] [] rfl rfl (fun w _ _ => awake4_con w) (fun x L' hx => ?_) | refine YC.conR [] [] rfl rfl (fun w hw0 _ => laid_con a len cap w us hlen (Arr.later hw0 ha)) (fun x L' hx => ?_) | refine YC.conR [0, 1] _ rfl rfl (fun w hw0 hw => single_con _ _ 16 (by omega) X hB hl root pg w hw) (fun x L' hx => ?_) | refine YC.conR [] [] rfl rfl (fun w _ _ => index_ref pg 0 w) (fun x L' hx => ?_) | refine YC.conR [2, 3] _ rfl rfl (fun w hw0 hw => rget_con _ _ 16 (by omega) X hB hl root (indexI pg 0) w hw) (fun x L' hx => ?_) | refine YC.conR [0, 1] _ rfl rfl (fun w hw0 hw => store_con _ _ 16 (by omega) X hl at_ 1 v hv w hw) (fun x L' hx => ?_) | refine YC.conR [0, 1] _ rfl rfl (fun w hw0 hw => single_con _ _ 16 (by omega) (storeL 16 X at_ 1 v) (hB.store _ _ _ _) (by rw [storeL_length]; exact hl) root pg w hw) (fun x L' hx => ?_))
    | (show YU _ _ _ _ _ _ _ _; first | refine YU.store1L tabOk rfl rfl 0 rfl rfl ?_ | refine YU.store1L tabOk rfl rfl 1 rfl rfl ?_ | refine YU.store1L tabOk rfl rfl 2 rfl rfl ?_ | refine YU.store1L tabOk rfl rfl 3 rfl rfl ?_ | refine YU.store1L tabOk rfl rfl 4 rfl rfl ?_ | refine YU.store1L tabOk rfl rfl 5 rfl rfl ?_ | refine YU.store1L tabOk rfl rfl 6 rfl rfl ?_ | refine YU.store1L tabOk rfl rfl 7 rfl rfl ?_ | refine YU.storeF tabOk rfl rfl rfl 0 rfl rfl ?_ | refine YU.storeF tabOk rfl rfl rfl 1 rfl rfl ?_ | refine YU.storeF tabOk rfl rfl rfl 2 rfl rfl ?_ | refine YU.storeF tabOk rfl rfl rfl 3 rfl rfl ?_ | refine YU.storeF tabOk rfl rfl rfl 4 rfl rfl ?_ | refine YU.storeF tabOk rfl rfl rfl 5 rfl rfl ?_ | refine YU.storeF tabOk rfl rfl rfl 6 rfl rfl ?_ | refine YU.storeF tabOk rfl rfl rfl 7 rfl rfl ?_ | refine YU.storeAL tabOk rfl rfl rfl 0 rfl rfl ?_ | refine YU.storeAL tabOk rfl rfl rfl 1 rfl rfl ?_ | refine YU.storeAL tabOk rfl rfl rfl 2 rfl rfl ?_ | refine YU.storeAL tabOk rfl rfl rfl 3 rfl rfl ?_ | refine YU.storeAL tabOk rfl rfl rfl 4 rfl rfl ?_)
    | (show Wr _ _ _; first | refine Wr.i64 (by omega) ?_ | refine Wr.u8 (by omega) ?_ | refine Wr.u16 (by omega) ?_ | refine Wr.u32 (by omega) ?_)
    | (show BIf _ _ _; first | refine BIf.pos rfl ?_ | refine BIf.neg rfl ?_)
    | (show Dr _ _ _ _ _ _ _ _ _; first | refine Dr.all (by kernel_rfl) ?_)
    | (show Fork _ _; first | refine Fork.mk ?_ ?_)
    | (show Vc.Fin _ _ _; first | refine Fin.take 0 (And.intro ?_ rfl))
    | intro b)
  all_goals first
    | (show Value.bool _ = Value.bool _; rfl)
    | contradiction
    | (exfalso; omega)
    | (show Value.bool _ = Value.bool _; congr 1; exact eqB_true.2 ⟨rfl, rfl, rfl, rfl, rfl, trivial⟩)
    | (exfalso; exact h2 ⟨by assumption, by assumption⟩)
theorem walkBlind_walk (a0 : Option Addr) (len0 cap0 n0 : Nat) {W : World} (rd0 : Rd Try.prog W n0 22 (Value.slice a0 len0 cap0).cells.toList) (root : Int) (w1 : (Lit.int .i64 root).wf = true) (pg : Int) (w2 : (Lit.int .i64 pg).wf = true) (at_ : Int) (w3 : (Lit.int .i64 at_).wf = true) (v : Int) (w4 : (Lit.int .u32 v).wf = true) :
    Calls Try.prog 6 #[.slice a0 len0 cap0, .int .i64 root, .int .i64 pg, .int .i64 at_, .int .u32 v] W fun e w' => e = .returned (.bool true) ∧ RowKit.Below W.heap.size W w' := by
  obtain ⟨us, h1, h2⟩ := rd_puts rd0
  have hat := wf_i64 w3
  by_cases hR : at_ < 0 ∨ (0 ≤ at_ ∧ (at_ / 64 = root ∨ (getE 16 (lay (us.take 200)) root (indexI pg 0) = 0 ∧ at_ / 64 = (getX 16 (lay (us.take 200)) root (indexI pg 0)).f)))
  · exact (walkBlind_ret _ (lay_in _).1 (lay_in _).2 us rfl a0 len0 cap0 W h1 h2 root pg at_ v hat _ _ rfl rfl hR).law
  · exact (walkBlind_goes _ (lay_in _).1 (lay_in _).2 us rfl a0 len0 cap0 W h1 h2 root pg at_ v (by omega) (wf_u32 w4) (fun h => hR (.inr ⟨by omega, .inl h⟩)) (fun h => hR (.inr ⟨by omega, .inr h⟩))).law
end Go.Proofs.Ytbohpchmofkllaa
