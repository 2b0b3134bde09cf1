/- 'viceroylaw01.RamLays' answers true at every input. Conditions: none beside the row's own. -/
import Derived.Test.YtfamidjdhahfiaaRows
import Derived.Test.YtfamidjdhahfiaaLawRamPlays
set_option linter.unusedVariables false
set_option linter.unusedSimpArgs false
set_option maxRecDepth 10000
set_option maxHeartbeats 4000000
namespace Go.Proofs.Ytfamidjdhahfiaa
open Vc Mem
theorem gt_frm (xs : List Int) (k i : Nat) (h : i < 64) : gt (frm xs k) i = gt xs (k * 64 + i) := by
  simp [gt, frm, List.getD_eq_getElem?_getD, List.getElem?_take, List.getElem?_drop, h]
theorem gt_lay {xs : List Int} {a : Nat} {bs : List Int} (h : a + bs.length ≤ xs.length) (j : Nat) : gt (layL xs a bs) j = if a ≤ j ∧ j < a + bs.length then gt bs (j - a) else gt xs j := by
  simp only [gt, List.getD_eq_getElem?_getD, layL_get h]
  split <;> rfl
/-- What is laid into a frame stands at its begin. -/
theorem lay_own {xs bs : List Int} (hl : xs.length = 4 * 64) {n : Int} (hk : thereP 4 n) (hb : bs.length ≤ 64) {i : Nat} (hi : i < bs.length) : gt (frm (layX 4 xs n bs) n.toNat) i = gt bs i := by
  have hk' := hk
  unfold thereP at hk'
  rw [gt_frm _ _ _ (by omega), show layX 4 xs n bs = layL xs (n.toNat * 64) bs from if_pos ⟨hk, hb⟩, gt_lay (by rw [hl]; omega), if_pos (by omega)]
  congr 1
  omega
theorem lay_rest {xs bs : List Int} (hl : xs.length = 4 * 64) {n : Int} (hk : thereP 4 n) {i : Nat} (h64 : i < 64) (hi : ¬ (bs.length ≤ 64 ∧ i < bs.length)) : gt (frm (layX 4 xs n bs) n.toNat) i = gt (frm xs n.toNat) i := by
  have hk' := hk
  unfold thereP at hk'
  rw [gt_frm _ _ _ h64, gt_frm _ _ _ h64]
  by_cases hb : bs.length ≤ 64
  · rw [show layX 4 xs n bs = layL xs (n.toNat * 64) bs from if_pos ⟨hk, hb⟩, gt_lay (by rw [hl]; omega), if_neg (by omega)]
  · rw [show layX 4 xs n bs = xs from if_neg (fun h => hb h.2)]
theorem clr_own {xs : List Int} (hl : xs.length = 4 * 64) {n : Int} (hk : thereP 4 n) {i : Nat} (h64 : i < 64) : gt (frm (clrX 4 xs n) n.toNat) i = 0 := by
  have hk' := hk
  unfold thereP at hk'
  rw [gt_frm _ _ _ h64, show clrX 4 xs n = layL xs (n.toNat * 64) (List.replicate 64 0) from if_pos hk, gt_lay (by rw [hl, List.length_replicate]; omega), if_pos (by rw [List.length_replicate]; omega)]
  unfold gt
  rw [List.getD_eq_getElem?_getD, List.getElem?_replicate]
  split <;> rfl
theorem frm_eq {xs ys : List Int} {k : Nat} (h : ∀ i, i < 64 → ys[k * 64 + i]? = xs[k * 64 + i]?) : frm ys k = frm xs k := by
  apply List.ext_getElem?
  intro i
  simp only [frm, List.getElem?_take, List.getElem?_drop]
  split
  · exact h i (by assumption)
  · rfl
theorem clr_other {xs : List Int} (hl : xs.length = 4 * 64) {n o : Int} (hn : thereP 4 n) (h : o ≠ n) : frm (clrX 4 xs o) n.toNat = frm xs n.toNat := by
  have hn' := hn
  unfold thereP at hn'
  by_cases ho : thereP 4 o
  · have ho' := ho
    unfold thereP at ho'
    rw [show clrX 4 xs o = layL xs (o.toNat * 64) (List.replicate 64 0) from if_pos ho]
    refine frm_eq (fun i hi => ?_)
    rw [layL_get (by rw [hl, List.length_replicate]; omega), if_neg (by rw [List.length_replicate]; omega)]
  · rw [show clrX 4 xs o = xs from if_neg ho]
section
variable (p F n : Nat) (hn : n ≤ 1024)
include hn
theorem frame_any (xs : List Int) (hl : xs.length = n * 64) (k : Int) (w : World) (hw : Own w [ramE p F n, frE F xs]) : Con Try.prog 14 [.pointer (some ⟨p, 0, none⟩), .int .i64 k] w [ramE p F n, frE F xs]
    (fun y L' => (thereP n k ∧ ∃ b, y = .tuple #[.slice (some ⟨b, 0, none⟩) 64 64, .int .i64 0] ∧ L' = [ramE p F n, frE F xs, frE b (frm xs k.toNat)]) ∨ (¬ thereP n k ∧ y = .tuple #[.slice none 0 0, .int .i64 10] ∧ L' = [ramE p F n, frE F xs])) := by
  by_cases hk : thereP n k
  · exact (frame_ok p F n hn xs hl k hk w hw).mono (fun y L' h => Or.inl ⟨hk, h⟩)
  · exact (frame_no p F n hn xs k hk w hw).mono (fun y L' h => Or.inr ⟨hk, h⟩)
theorem lay_at (xs : List Int) (hl : xs.length = n * 64) (k e : Int) (bs : List Int) (he : layE n k bs.length = e) (a : Option Addr) (cap : Nat) (w : World) (ha : ArrF w [p, F] 1 u8V a bs) (hw : Own w [ramE p F n, frE F xs]) : Con Try.prog 16 [.pointer (some ⟨p, 0, none⟩), .int .i64 k, .slice a bs.length cap] w [ramE p F n, frE F xs]
    (fun y L' => y = .int .i64 e ∧ L' = [ramE p F n, frE F (layX n xs k bs)]) := by
  subst he
  exact lay_con p F n hn xs hl k bs a cap w ha hw
theorem clear_at (xs : List Int) (hl : xs.length = n * 64) (k e : Int) (he : clrE n k = e) (w : World) (hw : Own w [ramE p F n, frE F xs]) : Con Try.prog 17 [.pointer (some ⟨p, 0, none⟩), .int .i64 k] w [ramE p F n, frE F xs]
    (fun y L' => y = .int .i64 e ∧ L' = [ramE p F n, frE F (clrX n xs k)]) := by
  subst he
  exact clear_con p F n hn xs hl k w hw
end
/-- The frame is there. -/
theorem ramLays_there (a0 : Option Addr) (len cap : Nat) (w : World) (acts : List (RAw w)) (hlen : acts.length = len) (ha : Arr w 5 rawV a0 acts) (n o : Int) (hk : thereP 4 n) (b0 : Option Addr) (cb : Nat) (bs : List Int) (hb : Arr w 1 u8V b0 bs) (hm : bs.length ≤ reachBytes) (e1 e2 : Int)
    (he1 : layE 4 n bs.length = e1) (hE1 : (e1 = 0 ∧ bs.length ≤ 64) ∨ (e1 = 2 ∧ 64 < bs.length)) (he2 : clrE 4 o = e2) (hE2 : (e2 = 0 ∧ 0 ≤ o ∧ o < 4) ∨ (e2 = 10 ∧ (o < 0 ∨ 4 ≤ o))) :
    Con Try.prog 4 [.slice a0 len cap, .int .i64 n, .slice b0 bs.length cb, .int .i64 o] w [] (fun y L' => y = .bool true ∧ L' = []) := by
  have hk' := hk
  unfold thereP at hk'
  have hm' := reach_le hm
  refine Con.of_vc tabOk 199 [.tmp 8] Try.func4 rfl Try.ntmps4 Try.results4 rfl (Own.nil' w) ?_
  repeat' ((conv => whnf); first
    | (replace hx := (show _ ∨ _ from hx); rcases hx with ⟨ho, d, rfl, rfl⟩ | ⟨ho, rfl, rfl⟩ <;> refine ⟨rfl, ?_⟩)
    | (obtain ⟨rfl, rfl⟩ := hx; refine ⟨rfl, ?_⟩)
    | (obtain ⟨b, rfl, rfl⟩ := hx; refine ⟨rfl, ?_⟩)
    | (obtain ⟨b, c, rfl, rfl⟩ := hx; refine ⟨rfl, ?_⟩)
    | (show gsplit _ _ _; first | refine gsplit.tt ?_ | refine gsplit.ff ?_ | refine gsplit.dpos (by omega) ?_ | refine gsplit.dneg (by omega) ?_ | refine gsplit.npos (by omega) ?_ | refine gsplit.nneg (by omega) ?_ | refine gsplit.dec (fun hc => ?_) (fun hc => ?_) | refine gsplit.ndec (fun hc => ?_) (fun hc => ?_) | refine gsplit.eq (fun hc => ?_) (fun hc => ?_) | refine gsplit.neq (fun hc => ?_) (fun hc => ?_))
    | (show YQ _ _ _ _ _ _; first | refine qeqp Try.underlying25 ?_ | refine qeqp Try.underlying29 ?_ | refine qneb Try.underlying4 ?_ | refine qeqb Try.underlying4 ?_ | refine YQ.idxS tabOk rfl ha st.1 (List.getElem?_eq_getElem (by omega)) (by omega) (fun ad hd => ?_) | refine YQ.loadS tabOk hd rfl rfl ?_ | refine YQ.idxS tabOk rfl hb i (gt_of (by omega)) (by omega) (fun ad hd => ?_) | refine YQ.loadS1 tabOk hd rfl ?_ | refine YQ.loadB tabOk rfl 2 i rfl ⟨by omega, by rw [frm_length hst.2.1 (k := n.toNat) (by omega)]; omega⟩ ?_ | refine YQ.loadB tabOk rfl 3 i rfl ⟨by omega, by rw [frm_length (layX_length hst.2.1 _ _) (k := n.toNat) (by omega)]; omega⟩ ?_ | refine YQ.loadB tabOk rfl 2 j rfl ⟨by omega, by have ho : thereP 4 o := (by assumption); unfold thereP at ho; rw [frm_length (clrX_length (layX_length hst.2.1 _ _) _) (k := o.toNat) (by omega)]; omega⟩ ?_ | refine YQ.remN (by omega) ?_ | refine YQ.quoN (by omega) ?_ | refine YQ.len tabOk rfl ?_ | refine YQ.idx tabOk rfl (by omega) ?_ | refine YQ.idxA tabOk rfl (by omega) ?_ | refine YQ.sliceA tabOk rfl (by omega) (by omega) ?_ | refine YQ.sliceAll tabOk rfl ?_ | refine YQ.load1 tabOk rfl 0 rfl rfl ?_ | refine YQ.load1 tabOk rfl 1 rfl rfl ?_ | refine YQ.load1 tabOk rfl 2 rfl rfl ?_ | refine YQ.load1 tabOk rfl 3 rfl rfl ?_ | refine YQ.load1 tabOk rfl 4 rfl rfl ?_ | refine YQ.load1 tabOk rfl 5 rfl rfl ?_ | refine YQ.loadF tabOk rfl 0 rfl rfl ?_ | refine YQ.loadF tabOk rfl 1 rfl rfl ?_ | refine YQ.loadF tabOk rfl 2 rfl rfl ?_ | refine YQ.loadF tabOk rfl 3 rfl rfl ?_ | refine YQ.loadF tabOk rfl 4 rfl rfl ?_ | refine YQ.loadF tabOk rfl 5 rfl rfl ?_ | refine YQ.loadA tabOk rfl 0 rfl rfl rfl ?_ | refine YQ.loadA tabOk rfl 1 rfl rfl rfl ?_ | refine YQ.loadA tabOk rfl 2 rfl rfl rfl ?_ | refine YQ.loadA tabOk rfl 3 rfl rfl rfl ?_ | refine YQ.loadA tabOk rfl 4 rfl rfl rfl ?_ | refine YQ.build tabOk rfl rfl rfl ?_ | refine YQ.eqF tabOk rfl rfl rfl ?_ | refine YQ.neF tabOk rfl rfl rfl ?_)
    | (show YC _ _ _ _ _ _ _; first | refine YC.conR [] [] rfl rfl (fun w _ _ => awake1_con w) (fun x L' hx => ?_) | refine YC.conR [] [] rfl rfl (fun w _ _ => ramNew_ok 4 4 (by omega) w) (fun x L' hx => ?_) | refine YC.conR [] [] rfl rfl (fun w _ _ => refNew_ok 4 4 (by omega) w) (fun x L' hx => ?_) | refine YC.conR [0, 1, 2, 3] _ rfl rfl (fun w hw0 hw => rdoes_raw _ _ _ _ 4 (by omega) st.2 hst.2.2 hst.2.1 _ w (Arr.apart (g := u8V) (n := 1) (is := [0, 1, 2, 3]) (fun _ => rfl) (by omega) hw0 rfl (RAw.ha _)) hw) (fun x L' hx => ?_) | refine YC.conR [0, 1] _ rfl rfl (fun w hw0 hw => frame_ok _ _ 4 (by omega) st.2 hst.2.1 n hk w hw) (fun x L' hx => ?_) | refine YC.conR [0, 1] _ rfl rfl (fun w hw0 hw => frame_ok _ _ 4 (by omega) (layX 4 st.2 n bs) (layX_length hst.2.1 _ _) n hk w hw) (fun x L' hx => ?_) | refine YC.conR [0, 1] _ rfl rfl (fun w hw0 hw => frame_ok _ _ 4 (by omega) (clrX 4 (layX 4 st.2 n bs) o) (clrX_length (layX_length hst.2.1 _ _) _) n hk w hw) (fun x L' hx => ?_) | refine YC.conR [0, 1] _ rfl rfl (fun w hw0 hw => frame_any _ _ 4 (by omega) (clrX 4 (layX 4 st.2 n bs) o) (clrX_length (layX_length hst.2.1 _ _) _) o w hw) (fun x L' hx => ?_) | refine YC.conR [0, 1] _ rfl rfl (fun w hw0 hw => lay_at _ _ 4 (by omega) st.2 hst.2.1 n e1 bs he1 _ _ w (Arr.apart (g := u8V) (n := 1) (is := [0, 1]) (fun _ => rfl) (by omega) hw0 rfl hb) hw) (fun x L' hx => ?_) | refine YC.conR [0, 1] _ rfl rfl (fun w hw0 hw => clear_at _ _ 4 (by omega) (layX 4 st.2 n bs) (layX_length hst.2.1 _ _) o e2 he2 w hw) (fun x L' hx => ?_) | refine YC.conR [] [] rfl rfl (fun w hw0 _ => same64 _ _ (frm_length (clrX_length (layX_length hst.2.1 n bs) o) (k := n.toNat) (by omega)) (frm_length (layX_length hst.2.1 n bs) (k := n.toNat) (by omega)) _ _ _ _ w (hw0.bytes 1 rfl) (hw0.bytes 0 rfl)) (fun x L' hx => ?_))
    | (show YU _ _ _ _ _ _ _ _; first | refine YU.store1L tabOk rfl rfl 0 rfl rfl ?_ | refine YU.store1L tabOk rfl rfl 1 rfl rfl ?_ | refine YU.store1L tabOk rfl rfl 2 rfl rfl ?_ | refine YU.store1L tabOk rfl rfl 3 rfl rfl ?_ | refine YU.store1L tabOk rfl rfl 4 rfl rfl ?_ | refine YU.storeF tabOk rfl rfl rfl 0 rfl rfl ?_ | refine YU.storeF tabOk rfl rfl rfl 1 rfl rfl ?_ | refine YU.storeF tabOk rfl rfl rfl 2 rfl rfl ?_ | refine YU.storeF tabOk rfl rfl rfl 3 rfl rfl ?_ | refine YU.storeF tabOk rfl rfl rfl 4 rfl rfl ?_ | refine YU.storeF tabOk rfl rfl rfl 5 rfl rfl ?_ | refine YU.storeAL tabOk rfl rfl rfl 0 rfl rfl ?_ | refine YU.storeAL tabOk rfl rfl rfl 1 rfl rfl ?_ | refine YU.storeAL tabOk rfl rfl rfl 2 rfl rfl ?_ | refine YU.storeAL tabOk rfl rfl rfl 3 rfl rfl ?_ | refine YU.storeAL tabOk rfl rfl rfl 4 rfl rfl ?_)
    | (show Wr _ _ _; first | refine Wr.i64 (by omega) ?_ | refine Wr.u8 (by omega) ?_ | refine Wr.u16 (by omega) ?_ | refine Wr.u32 (by omega) ?_)
    | (show BIf _ _ _; first | refine BIf.pos rfl ?_ | refine BIf.neg rfl ?_)
    | (show Lp _ _ _ _ _; first | refine Lp.mk (α := Nat × List Int) [14] [0, 1, 2, 3, 9, 10, 12] _ (fun x => [.int .i64 x.1]) (fun x => [ramE _ _ 4, frE _ x.2, refE _ _ 4, byE _ x.2]) (fun x => x.1 ≤ 60 ∧ x.2.length = 4 * 64 ∧ By x.2) (fun x => 60 - x.1) rfl rfl ⟨0, List.replicate (4 * 64) 0⟩ ⟨by simp, by simp, By.rep _⟩ rfl ⟨_, rfl⟩ (fun st hst => ?_) | refine Lp.sub (α := Nat) [20] [1, 2, 3, 9, 10, 15, 17, 18] _ (fun i => [.int .i64 i]) (fun i => [ramE _ _ 4, frE _ (layX 4 st.2 n bs), frE _ (frm st.2 n.toNat), frE _ (frm (layX 4 st.2 n bs) n.toNat)]) (fun i => i ≤ 64) (fun i => 64 - i) rfl rfl 0 (by omega) rfl ⟨[0, 1, 4, 5], rfl, rfl⟩ (fun i hi => ?_) | refine Lp.sub (α := Nat) [27] [1, 3, 9, 18, 22, 23, 25] _ (fun i => [.int .i64 i]) (fun i => [frE _ (frm (layX 4 st.2 n bs) n.toNat), frE _ (frm (clrX 4 (layX 4 st.2 n bs) o) n.toNat), frE _ (frm (clrX 4 (layX 4 st.2 n bs) o) o.toNat)]) (fun i => i ≤ 64) (fun i => 64 - i) rfl rfl 0 (by omega) rfl ⟨[3, 4, 5], rfl, rfl⟩ (fun j hj => ?_) | (refine Lp.prune [1, 3, 9, 18, 22, 23, 25, 27] _ _ rfl ⟨[3, 4], rfl, rfl⟩ ?_; refine Lp.rounds 2 ?_))
    | (show Dr _ _ _ _ _ _ _ _ _; first | refine Dr.all (by kernel_rfl) ?_)
    | (show Vc.Fin _ _ _; first | refine Fin.take 0 (And.intro ?_ rfl))
    | refine ⟨⟨st.1 + 1, rdoX 4 st.2 (RAw.x _) (RAw.bs _)⟩, ⟨by show st.1 + 1 ≤ 60; omega, rdoX_length hst.2.1 _ _, By.rdo hst.2.2 (RAw.by_ _) hst.2.1 _⟩, by show 60 - (st.1 + 1) < 60 - st.1; omega, rfl, ⟨_, rfl⟩⟩
    | refine ⟨i + 1, by omega, by omega, rfl, [0, 1, 2, 3], rfl, rfl⟩
    | refine ⟨j + 1, by omega, by omega, rfl, [0, 1, 2], rfl, rfl⟩
    | intro b)
  all_goals first
    | rfl
    | (show Value.bool _ = Value.bool _; congr 1; simp; done)
    | contradiction
    | (exfalso; omega)
    | (exfalso; have := lay_own hst.2.1 hk (bs := bs) (i := i) (by omega) (by omega); contradiction)
    | (exfalso; have := lay_rest hst.2.1 hk (bs := bs) (i := i) (by omega) (by omega); contradiction)
    | (exfalso; have := clr_own (layX_length hst.2.1 n bs) (show thereP 4 o by assumption) (i := j) (by omega); contradiction)
    | (show Value.bool _ = Value.bool _; congr 1; rw [decide_eq_true_eq]; exact Decidable.byContradiction (fun h => absurd (clr_other (layX_length hst.2.1 n bs) hk h) (by assumption)))
    | (exfalso; rename_i hz; simp at hz; omega)
    | (exfalso; simp at hc; omega)
    | (exfalso; simp_all <;> omega)
/-- The frame is not there. -/
theorem ramLays_no (a0 : Option Addr) (len cap : Nat) (w : World) (acts : List (RAw w)) (hlen : acts.length = len) (ha : Arr w 5 rawV a0 acts) (n o : Int) (hk : ¬ thereP 4 n) (b0 : Option Addr) (cb : Nat) (bs : List Int) (hb : Arr w 1 u8V b0 bs) (hm : bs.length ≤ reachBytes) (e2 : Int)
    (he1 : layE 4 n bs.length = 10) (he2 : clrE 4 o = e2) (hE2 : (e2 = 0 ∧ 0 ≤ o ∧ o < 4) ∨ (e2 = 10 ∧ (o < 0 ∨ 4 ≤ o))) :
    Con Try.prog 4 [.slice a0 len cap, .int .i64 n, .slice b0 bs.length cb, .int .i64 o] w [] (fun y L' => y = .bool true ∧ L' = []) := by
  have hk' := hk
  unfold thereP at hk'
  have hm' := reach_le hm
  refine Con.of_vc tabOk 199 [.tmp 8] Try.func4 rfl Try.ntmps4 Try.results4 rfl (Own.nil' w) ?_
  repeat' ((conv => whnf); first
    | (replace hx := (show _ ∨ _ from hx); rcases hx with ⟨ho, d, rfl, rfl⟩ | ⟨ho, rfl, rfl⟩ <;> refine ⟨rfl, ?_⟩)
    | (obtain ⟨rfl, rfl⟩ := hx; refine ⟨rfl, ?_⟩)
    | (obtain ⟨b, rfl, rfl⟩ := hx; refine ⟨rfl, ?_⟩)
    | (obtain ⟨b, c, rfl, rfl⟩ := hx; refine ⟨rfl, ?_⟩)
    | (show gsplit _ _ _; first | refine gsplit.tt ?_ | refine gsplit.ff ?_ | refine gsplit.dpos (by omega) ?_ | refine gsplit.dneg (by omega) ?_ | refine gsplit.npos (by omega) ?_ | refine gsplit.nneg (by omega) ?_ | refine gsplit.dec (fun hc => ?_) (fun hc => ?_) | refine gsplit.ndec (fun hc => ?_) (fun hc => ?_) | refine gsplit.eq (fun hc => ?_) (fun hc => ?_) | refine gsplit.neq (fun hc => ?_) (fun hc => ?_))
    | (show YQ _ _ _ _ _ _; first | refine qeqp Try.underlying25 ?_ | refine qeqp Try.underlying29 ?_ | refine qneb Try.underlying4 ?_ | refine qeqb Try.underlying4 ?_ | refine YQ.idxS tabOk rfl ha st.1 (List.getElem?_eq_getElem (by omega)) (by omega) (fun ad hd => ?_) | refine YQ.loadS tabOk hd rfl rfl ?_ | refine YQ.loadB tabOk rfl 0 j rfl ⟨by omega, by have ho : thereP 4 o := (by assumption); unfold thereP at ho; rw [frm_length (clrX_length (layX_length hst.2.1 _ _) _) (k := o.toNat) (by omega)]; omega⟩ ?_ | refine YQ.remN (by omega) ?_ | refine YQ.quoN (by omega) ?_ | refine YQ.len tabOk rfl ?_ | refine YQ.idx tabOk rfl (by omega) ?_ | refine YQ.idxA tabOk rfl (by omega) ?_ | refine YQ.sliceA tabOk rfl (by omega) (by omega) ?_ | refine YQ.sliceAll tabOk rfl ?_ | refine YQ.load1 tabOk rfl 0 rfl rfl ?_ | refine YQ.load1 tabOk rfl 1 rfl rfl ?_ | refine YQ.load1 tabOk rfl 2 rfl rfl ?_ | refine YQ.load1 tabOk rfl 3 rfl rfl ?_ | refine YQ.load1 tabOk rfl 4 rfl rfl ?_ | refine YQ.load1 tabOk rfl 5 rfl rfl ?_ | refine YQ.loadF tabOk rfl 0 rfl rfl ?_ | refine YQ.loadF tabOk rfl 1 rfl rfl ?_ | refine YQ.loadF tabOk rfl 2 rfl rfl ?_ | refine YQ.loadF tabOk rfl 3 rfl rfl ?_ | refine YQ.loadF tabOk rfl 4 rfl rfl ?_ | refine YQ.loadF tabOk rfl 5 rfl rfl ?_ | refine YQ.loadA tabOk rfl 0 rfl rfl rfl ?_ | refine YQ.loadA tabOk rfl 1 rfl rfl rfl ?_ | refine YQ.loadA tabOk rfl 2 rfl rfl rfl ?_ | refine YQ.loadA tabOk rfl 3 rfl rfl rfl ?_ | refine YQ.loadA tabOk rfl 4 rfl rfl rfl ?_ | refine YQ.build tabOk rfl rfl rfl ?_ | refine YQ.eqF tabOk rfl rfl rfl ?_ | refine YQ.neF tabOk rfl rfl rfl ?_)
    | (show YC _ _ _ _ _ _ _; first | refine YC.conR [] [] rfl rfl (fun w _ _ => awake1_con w) (fun x L' hx => ?_) | refine YC.conR [] [] rfl rfl (fun w _ _ => ramNew_ok 4 4 (by omega) w) (fun x L' hx => ?_) | refine YC.conR [] [] rfl rfl (fun w _ _ => refNew_ok 4 4 (by omega) w) (fun x L' hx => ?_) | refine YC.conR [0, 1, 2, 3] _ rfl rfl (fun w hw0 hw => rdoes_raw _ _ _ _ 4 (by omega) st.2 hst.2.2 hst.2.1 _ w (Arr.apart (g := u8V) (n := 1) (is := [0, 1, 2, 3]) (fun _ => rfl) (by omega) hw0 rfl (RAw.ha _)) hw) (fun x L' hx => ?_) | refine YC.conR [0, 1] _ rfl rfl (fun w hw0 hw => frame_no _ _ 4 (by omega) st.2 n hk w hw) (fun x L' hx => ?_) | refine YC.conR [0, 1] _ rfl rfl (fun w hw0 hw => frame_no _ _ 4 (by omega) (layX 4 st.2 n bs) n hk w hw) (fun x L' hx => ?_) | refine YC.conR [0, 1] _ rfl rfl (fun w hw0 hw => frame_no _ _ 4 (by omega) (clrX 4 (layX 4 st.2 n bs) o) n hk w hw) (fun x L' hx => ?_) | refine YC.conR [0, 1] _ rfl rfl (fun w hw0 hw => frame_any _ _ 4 (by omega) (clrX 4 (layX 4 st.2 n bs) o) (clrX_length (layX_length hst.2.1 _ _) _) o w hw) (fun x L' hx => ?_) | refine YC.conR [0, 1] _ rfl rfl (fun w hw0 hw => lay_at _ _ 4 (by omega) st.2 hst.2.1 n 10 bs he1 _ _ w (Arr.apart (g := u8V) (n := 1) (is := [0, 1]) (fun _ => rfl) (by omega) hw0 rfl hb) hw) (fun x L' hx => ?_) | refine YC.conR [0, 1] _ rfl rfl (fun w hw0 hw => clear_at _ _ 4 (by omega) (layX 4 st.2 n bs) (layX_length hst.2.1 _ _) o e2 he2 w hw) (fun x L' hx => ?_) | refine YC.conR [] [] rfl rfl (fun w _ _ => same_bytes [] [] (by simp) _ _ _ _ w) (fun x L' hx => ?_) | refine YC.conR [] [] rfl rfl (fun w hw0 _ => same_bytes [] [] (by simp) none none 0 0 w (fun j x h => absurd h (by simp)) (fun j x h => absurd h (by simp))) (fun x L' hx => ?_))
    | (show YU _ _ _ _ _ _ _ _; first | refine YU.store1L tabOk rfl rfl 0 rfl rfl ?_ | refine YU.store1L tabOk rfl rfl 1 rfl rfl ?_ | refine YU.store1L tabOk rfl rfl 2 rfl rfl ?_ | refine YU.store1L tabOk rfl rfl 3 rfl rfl ?_ | refine YU.store1L tabOk rfl rfl 4 rfl rfl ?_ | refine YU.storeF tabOk rfl rfl rfl 0 rfl rfl ?_ | refine YU.storeF tabOk rfl rfl rfl 1 rfl rfl ?_ | refine YU.storeF tabOk rfl rfl rfl 2 rfl rfl ?_ | refine YU.storeF tabOk rfl rfl rfl 3 rfl rfl ?_ | refine YU.storeF tabOk rfl rfl rfl 4 rfl rfl ?_ | refine YU.storeF tabOk rfl rfl rfl 5 rfl rfl ?_ | refine YU.storeAL tabOk rfl rfl rfl 0 rfl rfl ?_ | refine YU.storeAL tabOk rfl rfl rfl 1 rfl rfl ?_ | refine YU.storeAL tabOk rfl rfl rfl 2 rfl rfl ?_ | refine YU.storeAL tabOk rfl rfl rfl 3 rfl rfl ?_ | refine YU.storeAL tabOk rfl rfl rfl 4 rfl rfl ?_)
    | (show Wr _ _ _; first | refine Wr.i64 (by omega) ?_ | refine Wr.u8 (by omega) ?_ | refine Wr.u16 (by omega) ?_ | refine Wr.u32 (by omega) ?_)
    | (show BIf _ _ _; first | refine BIf.pos rfl ?_ | refine BIf.neg rfl ?_)
    | (show Lp _ _ _ _ _; first | refine Lp.mk (α := Nat × List Int) [14] [0, 1, 2, 3, 9, 10, 12] _ (fun x => [.int .i64 x.1]) (fun x => [ramE _ _ 4, frE _ x.2, refE _ _ 4, byE _ x.2]) (fun x => x.1 ≤ 60 ∧ x.2.length = 4 * 64 ∧ By x.2) (fun x => 60 - x.1) rfl rfl ⟨0, List.replicate (4 * 64) 0⟩ ⟨by simp, by simp, By.rep _⟩ rfl ⟨_, rfl⟩ (fun st hst => ?_) | refine Lp.sub (α := Nat) [27] [1, 3, 9, 18, 22, 23, 25] _ (fun i => [.int .i64 i]) (fun i => [frE _ (frm (clrX 4 (layX 4 st.2 n bs) o) o.toNat)]) (fun i => i ≤ 64) (fun i => 64 - i) rfl rfl 0 (by omega) rfl ⟨[2], rfl, rfl⟩ (fun j hj => ?_) | (refine Lp.prune [1, 3, 9, 18, 22, 23, 25, 27] _ _ rfl ⟨[], rfl, rfl⟩ ?_; refine Lp.rounds 1 ?_) | (refine Lp.prune [1, 3, 9, 10, 15, 17, 18, 20] _ _ rfl ⟨[0, 1], rfl, rfl⟩ ?_; refine Lp.rounds 1 ?_))
    | (show Dr _ _ _ _ _ _ _ _ _; first | refine Dr.all (by kernel_rfl) ?_)
    | (show Vc.Fin _ _ _; first | refine Fin.take 0 (And.intro ?_ rfl))
    | refine ⟨⟨st.1 + 1, rdoX 4 st.2 (RAw.x _) (RAw.bs _)⟩, ⟨by show st.1 + 1 ≤ 60; omega, rdoX_length hst.2.1 _ _, By.rdo hst.2.2 (RAw.by_ _) hst.2.1 _⟩, by show 60 - (st.1 + 1) < 60 - st.1; omega, rfl, ⟨_, rfl⟩⟩
    | refine ⟨j + 1, by omega, by omega, rfl, [0], rfl, rfl⟩
    | intro b)
  all_goals first
    | rfl
    | (show Value.bool _ = Value.bool _; congr 1; simp; done)
    | contradiction
    | (exfalso; omega)
    | (exfalso; have := clr_own (layX_length hst.2.1 n bs) (show thereP 4 o by assumption) (i := j) (by omega); contradiction)
    | (exfalso; rename_i hz; simp at hz; omega)
    | (exfalso; simp_all <;> omega)
theorem ramLays_con (a0 : Option Addr) (len cap : Nat) (w : World) (acts : List (RAw w)) (hlen : acts.length = len) (ha : Arr w 5 rawV a0 acts) (n o : Int) (b0 : Option Addr) (cb : Nat) (bs : List Int) (hb : Arr w 1 u8V b0 bs) (hm : bs.length ≤ reachBytes) :
    Con Try.prog 4 [.slice a0 len cap, .int .i64 n, .slice b0 bs.length cb, .int .i64 o] w [] (fun y L' => y = .bool true ∧ L' = []) := by
  have hE2 : (clrE 4 o = 0 ∧ 0 ≤ o ∧ o < 4) ∨ (clrE 4 o = 10 ∧ (o < 0 ∨ 4 ≤ o)) := by
    by_cases h : thereP 4 o
    · have h' := h
      unfold thereP at h'
      exact Or.inl ⟨if_pos h, by omega, by omega⟩
    · have h' := h
      unfold thereP at h'
      exact Or.inr ⟨if_neg h, by omega⟩
  by_cases hk : thereP 4 n
  · refine ramLays_there a0 len cap w acts hlen ha n o hk b0 cb bs hb hm (layE 4 n bs.length) (clrE 4 o) rfl ?_ rfl hE2
    by_cases h : 64 < bs.length
    · exact Or.inr ⟨(if_pos hk).trans (if_pos h), h⟩
    · exact Or.inl ⟨(if_pos hk).trans (if_neg h), by omega⟩
  · exact ramLays_no a0 len cap w acts hlen ha n o hk b0 cb bs hb hm (clrE 4 o) (if_neg hk) rfl hE2
theorem ramLays_walk (a0 : Option Addr) (len0 cap0 n0 : Nat) {W : World} (rd0 : Rd Try.prog W n0 22 (Value.slice a0 len0 cap0).cells.toList) (a1 : Int) (w1 : (Lit.int .i64 a1).wf = true) (a2 : Option Addr) (len2 cap2 n2 : Nat) (rd2 : Rd Try.prog W n2 33 (Value.slice a2 len2 cap2).cells.toList) (a3 : Int) (w3 : (Lit.int .i64 a3).wf = true) :
    Calls Try.prog 4 #[.slice a0 len0 cap0, .int .i64 a1, .slice a2 len2 cap2, .int .i64 a3] W fun e w' => e = .returned (.bool true) ∧ RowKit.Below W.heap.size W w' := by
  obtain ⟨acts, h1, h2, h3, h4⟩ := rd_raws rd0
  obtain ⟨bs, rfl, g2, g3, g4, g5⟩ := rd_bytes rd2
  exact (ramLays_con a0 len0 cap0 W acts h1 h4 a1 a3 a2 cap2 bs g4 g3).law
end Go.Proofs.Ytfamidjdhahfiaa
