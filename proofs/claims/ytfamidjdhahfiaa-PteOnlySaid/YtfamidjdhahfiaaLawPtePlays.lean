/- 'viceroylaw02.PtePlays' answers true at every size and every list of acts. Conditions: none beside the row's own. -/
import Derived.Test.YtfamidjdhahfiaaRows
import Derived.Test.YtfamidjdhahfiaaPteD
import Derived.Test.YtfamidjdhahfiaaAwake2
import Derived.Test.YtfamidjdhahfiaaLawRamPlays
set_option linter.unusedVariables false
set_option linter.unusedSimpArgs false
set_option maxRecDepth 10000
set_option maxHeartbeats 8000000
namespace Go.Proofs.Ytfamidjdhahfiaa
open Vc Mem
/-- An act that was handed in: its half word is one. -/
def Ph := { a : Pa // 0 ≤ a.w ∧ a.w ≤ 65535 }
def phV (a : Ph) : List Value := paV a.1
theorem rd_pact {W : World} {n : Nat} {cs : List Value} (h : Rd Try.prog W n 70 cs) : ∃ x : Ph, cs = phV x := by
  obtain ⟨hl, m, hf⟩ := rd_struct h Try.underlying70
  have hc : Try.prog.cellsOf 70 = 8 := by kernel_rfl
  have hi : Try.prog.cellsOf 3 = 1 := by kernel_rfl
  have hu : Try.prog.cellsOf 68 = 1 := by kernel_rfl
  have he : Try.prog.cellsOf 67 = 4 := by kernel_rfl
  rw [hc] at hl
  obtain ⟨c0, c1, c2, c3, c4, c5, c6, c7, rfl⟩ : ∃ a b c d e f g i, cs = [a, b, c, d, e, f, g, i] := by
    match cs, hl with
    | [a, b, c, d, e, f, g, i], _ => exact ⟨a, b, c, d, e, f, g, i, rfl⟩
  obtain ⟨d, h0, -⟩ := rd_int (hf 0 _ rfl) Try.underlying3
  obtain ⟨t, h1, -⟩ := rd_int (hf 1 _ rfl) Try.underlying3
  obtain ⟨i, h2, -⟩ := rd_int (hf 2 _ rfl) Try.underlying3
  have h3 := hf 3 _ rfl
  obtain ⟨v, h4, hv⟩ := rd_int (hf 4 _ rfl) Try.underlying68
  simp [hi] at h0 h1 h2
  simp [hu] at h4
  simp [he] at h3
  obtain ⟨ev, el, er, ef, h5, -⟩ := rd_entry h3
  simp at h5
  obtain ⟨rfl, rfl, rfl, rfl⟩ := h5
  exact ⟨⟨⟨d, t, i, ⟨ev, el, er, ef⟩, v⟩, wf_u16 hv⟩, by rw [h0, h1, h2, h4]; rfl⟩
theorem rd_pacts {W : World} {n : Nat} {a : Option Addr} {len cap : Nat} (h : Rd Try.prog W n 65 (Value.slice a len cap).cells.toList) : ∃ acts : List Ph, acts.length = len ∧ Arr W 8 phV a acts := by
  obtain ⟨acts, h1, h2, h3, h4⟩ := rd_arr h Try.underlying65 (by kernel_rfl) (fun k es hl hR => rd_pact hR)
  exact ⟨acts, h1, h4⟩
theorem pdoes_ph (p F q B n : Nat) (hn : n ≤ 1024) (xs : List Int) (hx0 : By xs) (hl : xs.length = n * 64) (a : Ph) (w : World) (hw : Own w [ramE p F n, frE F xs, refE q B n, byE B xs]) :
    Con Try.prog 28 [.pointer (some ⟨p, 0, none⟩), .pointer (some ⟨q, 0, none⟩), .agg (phV a).toArray] w [ramE p F n, frE F xs, refE q B n, byE B xs]
      (fun y L' => y = .bool true ∧ L' = [ramE p F n, frE F (pdo n xs a.1), refE q B n, byE B (pdo n xs a.1)]) := pdoes_con p F q B n hn xs hx0 hl a.1 a.2 w hw
theorem ptePlays_con (k : Int) (a : Option Addr) (len cap : Nat) (w : World) (acts : List Ph) (hlen : acts.length = len) (ha : Arr w 8 phV a acts) :
    Con Try.prog 9 [.int .i64 k, .slice a len cap] w [] (fun y L' => y = .bool true ∧ L' = []) := by
  by_cases hk : k < 1 ∨ 1024 < k
  · refine Con.of_vc tabOk 89 [.tmp 4] Try.func9 rfl Try.ntmps9 Try.results9 rfl (Own.nil' w) ?_
    repeat' ((conv => whnf); first
      | (obtain ⟨rfl, rfl⟩ := hx; refine ⟨rfl, ?_⟩)
      | (obtain ⟨b, rfl, rfl⟩ := hx; refine ⟨rfl, ?_⟩)
      | (obtain ⟨b, c, rfl, rfl⟩ := hx; refine ⟨rfl, ?_⟩)
      | (show gsplit _ _ _; first | refine gsplit.tt ?_ | refine gsplit.ff ?_ | refine gsplit.dpos (by omega) ?_ | refine gsplit.dneg (by omega) ?_ | refine gsplit.npos (by omega) ?_ | refine gsplit.nneg (by omega) ?_ | refine gsplit.dec (fun hc => ?_) (fun hc => ?_) | refine gsplit.ndec (fun hc => ?_) (fun hc => ?_) | refine gsplit.eq (fun hc => ?_) (fun hc => ?_) | refine gsplit.neq (fun hc => ?_) (fun hc => ?_))
      | (show YQ _ _ _ _ _ _; first | refine qeqp Try.underlying25 ?_ | refine qeqp Try.underlying29 ?_ | refine qneb Try.underlying4 ?_ | refine YQ.remN (by omega) ?_ | refine YQ.quoN (by omega) ?_ | refine YQ.len tabOk rfl ?_ | refine YQ.idx tabOk rfl (by omega) ?_ | refine YQ.idxA tabOk rfl (by omega) ?_ | refine YQ.sliceA tabOk rfl (by omega) (by omega) ?_ | refine YQ.sliceAll tabOk rfl ?_ | refine YQ.load1 tabOk rfl 0 rfl rfl ?_ | refine YQ.load1 tabOk rfl 1 rfl rfl ?_ | refine YQ.load1 tabOk rfl 2 rfl rfl ?_ | refine YQ.load1 tabOk rfl 3 rfl rfl ?_ | refine YQ.load1 tabOk rfl 4 rfl rfl ?_ | refine YQ.load1 tabOk rfl 5 rfl rfl ?_ | refine YQ.loadF tabOk rfl 0 rfl rfl ?_ | refine YQ.loadF tabOk rfl 1 rfl rfl ?_ | refine YQ.loadF tabOk rfl 2 rfl rfl ?_ | refine YQ.loadF tabOk rfl 3 rfl rfl ?_ | refine YQ.loadF tabOk rfl 4 rfl rfl ?_ | refine YQ.loadF tabOk rfl 5 rfl rfl ?_ | refine YQ.loadA tabOk rfl 0 rfl rfl rfl ?_ | refine YQ.loadA tabOk rfl 1 rfl rfl rfl ?_ | refine YQ.loadA tabOk rfl 2 rfl rfl rfl ?_ | refine YQ.loadA tabOk rfl 3 rfl rfl rfl ?_ | refine YQ.loadA tabOk rfl 4 rfl rfl rfl ?_ | refine YQ.build tabOk rfl rfl rfl ?_ | refine YQ.eqF tabOk rfl rfl rfl ?_ | refine YQ.neF tabOk rfl rfl rfl ?_)
      | (show YC _ _ _ _ _ _ _; first | refine YC.conR [] [] rfl rfl (fun w _ _ => awake2_con w) (fun x L' hx => ?_) | refine YC.conR [] [] rfl rfl (fun w _ _ => ramNew_no k hk w) (fun x L' hx => ?_) | refine YC.conR [] [] rfl rfl (fun w _ _ => refNew_no k hk w) (fun x L' hx => ?_))
      | (show YU _ _ _ _ _ _ _ _; first | refine YU.store1L tabOk rfl rfl 0 rfl rfl ?_ | refine YU.store1L tabOk rfl rfl 1 rfl rfl ?_ | refine YU.store1L tabOk rfl rfl 2 rfl rfl ?_ | refine YU.store1L tabOk rfl rfl 3 rfl rfl ?_ | refine YU.store1L tabOk rfl rfl 4 rfl rfl ?_ | refine YU.storeF tabOk rfl rfl rfl 0 rfl rfl ?_ | refine YU.storeF tabOk rfl rfl rfl 1 rfl rfl ?_ | refine YU.storeF tabOk rfl rfl rfl 2 rfl rfl ?_ | refine YU.storeF tabOk rfl rfl rfl 3 rfl rfl ?_ | refine YU.storeF tabOk rfl rfl rfl 4 rfl rfl ?_ | refine YU.storeF tabOk rfl rfl rfl 5 rfl rfl ?_ | refine YU.storeAL tabOk rfl rfl rfl 0 rfl rfl ?_ | refine YU.storeAL tabOk rfl rfl rfl 1 rfl rfl ?_ | refine YU.storeAL tabOk rfl rfl rfl 2 rfl rfl ?_ | refine YU.storeAL tabOk rfl rfl rfl 3 rfl rfl ?_ | refine YU.storeAL tabOk rfl rfl rfl 4 rfl rfl ?_)
      | (show Wr _ _ _; first | refine Wr.i64 (by omega) ?_ | refine Wr.u8 (by omega) ?_ | refine Wr.u16 (by omega) ?_ | refine Wr.u32 (by omega) ?_)
      | (show BIf _ _ _; first | refine BIf.pos rfl ?_ | refine BIf.neg rfl ?_)
      | (show Dr _ _ _ _ _ _ _ _ _; first | refine Dr.all (by kernel_rfl) ?_)
      | (show Vc.Fin _ _ _; first | refine Fin.take 0 (And.intro ?_ rfl))
      | intro b)
    all_goals rfl
  obtain ⟨n, rfl⟩ := Int.eq_ofNat_of_zero_le (show 0 ≤ k by omega)
  have hn : 1 ≤ n ∧ n ≤ 1024 := by omega
  refine Con.of_vc tabOk 89 [.tmp 4] Try.func9 rfl Try.ntmps9 Try.results9 rfl (Own.nil' w) ?_
  repeat' ((conv => whnf); first
    | (obtain ⟨rfl, rfl⟩ := hx; refine ⟨rfl, ?_⟩)
    | (obtain ⟨b, rfl, rfl⟩ := hx; refine ⟨rfl, ?_⟩)
    | (obtain ⟨b, c, rfl, rfl⟩ := hx; refine ⟨rfl, ?_⟩)
    | (obtain ⟨b, c, sl, hc64, rfl, rfl⟩ := hx; refine ⟨rfl, ?_⟩)
    | (obtain ⟨rfl, rfl⟩ := hx; refine ⟨rfl, ?_⟩)
    | (obtain ⟨b, rfl, rfl⟩ := hx; refine ⟨rfl, ?_⟩)
    | (obtain ⟨b, c, rfl, rfl⟩ := hx; refine ⟨rfl, ?_⟩)
    | (show gsplit _ _ _; first | refine gsplit.tt ?_ | refine gsplit.ff ?_ | refine gsplit.dpos (by omega) ?_ | refine gsplit.dneg (by omega) ?_ | refine gsplit.npos (by omega) ?_ | refine gsplit.nneg (by omega) ?_ | refine gsplit.dec (fun hc => ?_) (fun hc => ?_) | refine gsplit.ndec (fun hc => ?_) (fun hc => ?_) | refine gsplit.eq (fun hc => ?_) (fun hc => ?_) | refine gsplit.neq (fun hc => ?_) (fun hc => ?_))
    | (show YQ _ _ _ _ _ _; first | refine qeqp Try.underlying25 ?_ | refine qeqp Try.underlying29 ?_ | refine qneb Try.underlying4 ?_ | refine YQ.idxS tabOk rfl ha st.1 (List.getElem?_eq_getElem (by omega)) (by omega) (fun ad hd => ?_) | refine YQ.loadS tabOk hd rfl rfl ?_ | refine YQ.remN (by omega) ?_ | refine YQ.quoN (by omega) ?_ | refine YQ.len tabOk rfl ?_ | refine YQ.idx tabOk rfl (by omega) ?_ | refine YQ.idxA tabOk rfl (by omega) ?_ | refine YQ.sliceA tabOk rfl (by omega) (by omega) ?_ | refine YQ.sliceAll tabOk rfl ?_ | refine YQ.load1 tabOk rfl 0 rfl rfl ?_ | refine YQ.load1 tabOk rfl 1 rfl rfl ?_ | refine YQ.load1 tabOk rfl 2 rfl rfl ?_ | refine YQ.load1 tabOk rfl 3 rfl rfl ?_ | refine YQ.load1 tabOk rfl 4 rfl rfl ?_ | refine YQ.load1 tabOk rfl 5 rfl rfl ?_ | refine YQ.loadF tabOk rfl 0 rfl rfl ?_ | refine YQ.loadF tabOk rfl 1 rfl rfl ?_ | refine YQ.loadF tabOk rfl 2 rfl rfl ?_ | refine YQ.loadF tabOk rfl 3 rfl rfl ?_ | refine YQ.loadF tabOk rfl 4 rfl rfl ?_ | refine YQ.loadF tabOk rfl 5 rfl rfl ?_ | refine YQ.loadA tabOk rfl 0 rfl rfl rfl ?_ | refine YQ.loadA tabOk rfl 1 rfl rfl rfl ?_ | refine YQ.loadA tabOk rfl 2 rfl rfl rfl ?_ | refine YQ.loadA tabOk rfl 3 rfl rfl rfl ?_ | refine YQ.loadA tabOk rfl 4 rfl rfl rfl ?_ | refine YQ.build tabOk rfl rfl rfl ?_ | refine YQ.eqF tabOk rfl rfl rfl ?_ | refine YQ.neF tabOk rfl rfl rfl ?_)
    | (show YC _ _ _ _ _ _ _; first | refine YC.conR [] [] rfl rfl (fun w _ _ => awake2_con w) (fun x L' hx => ?_) | refine YC.conR [] [] rfl rfl (fun w _ _ => ramNew_ok (n : Int) n ⟨rfl, hn⟩ w) (fun x L' hx => ?_) | refine YC.conR [] [] rfl rfl (fun w _ _ => refNew_ok (n : Int) n ⟨rfl, hn⟩ w) (fun x L' hx => ?_) | refine YC.conR [0, 1, 2, 3] _ rfl rfl (fun w hw0 hw => pdoes_ph _ _ _ _ n hn.2 st.2 hst.2.2 hst.2.1 _ w hw) (fun x L' hx => ?_) | refine YC.conR [2] _ rfl rfl (fun w hw0 hw => rframes_con _ _ n hn.2 w hw) (fun x L' hx => ?_) | refine YC.conR [0, 1] _ rfl rfl (fun w hw0 hw => frame_ok _ _ n hn.2 st.2 hst.2.1 i (by unfold thereP; omega) w hw) (fun x L' hx => ?_) | refine YC.conR [2, 3] _ rfl rfl (fun w hw0 hw => rframe_ok _ _ n hn.2 st.2 hst.2.1 i (by unfold thereP; omega) w hw) (fun x L' hx => ?_) | refine YC.conR [] [] rfl rfl (fun w hw0 _ => same64 _ _ (frm_length hst.2.1 (k := i) (by omega)) (frm_length hst.2.1 (k := i) (by omega)) _ _ _ _ w (hw0.bytes 4 rfl) (hw0.arr (ls := frm st.2 i) (tl := sl) (fun _ => rfl) 5 (by rw [rows_u8]; rfl))) (fun x L' hx => ?_))
    | (show YU _ _ _ _ _ _ _ _; first | refine YU.store1L tabOk rfl rfl 0 rfl rfl ?_ | refine YU.store1L tabOk rfl rfl 1 rfl rfl ?_ | refine YU.store1L tabOk rfl rfl 2 rfl rfl ?_ | refine YU.store1L tabOk rfl rfl 3 rfl rfl ?_ | refine YU.store1L tabOk rfl rfl 4 rfl rfl ?_ | refine YU.storeF tabOk rfl rfl rfl 0 rfl rfl ?_ | refine YU.storeF tabOk rfl rfl rfl 1 rfl rfl ?_ | refine YU.storeF tabOk rfl rfl rfl 2 rfl rfl ?_ | refine YU.storeF tabOk rfl rfl rfl 3 rfl rfl ?_ | refine YU.storeF tabOk rfl rfl rfl 4 rfl rfl ?_ | refine YU.storeF tabOk rfl rfl rfl 5 rfl rfl ?_ | refine YU.storeAL tabOk rfl rfl rfl 0 rfl rfl ?_ | refine YU.storeAL tabOk rfl rfl rfl 1 rfl rfl ?_ | refine YU.storeAL tabOk rfl rfl rfl 2 rfl rfl ?_ | refine YU.storeAL tabOk rfl rfl rfl 3 rfl rfl ?_ | refine YU.storeAL tabOk rfl rfl rfl 4 rfl rfl ?_)
    | (show Wr _ _ _; first | refine Wr.i64 (by omega) ?_ | refine Wr.u8 (by omega) ?_ | refine Wr.u16 (by omega) ?_ | refine Wr.u32 (by omega) ?_)
    | (show BIf _ _ _; first | refine BIf.pos rfl ?_ | refine BIf.neg rfl ?_)
    | (show Lp _ _ _ _ _; first | refine Lp.mk (α := Nat × List Int) [10] [1, 5, 6, 8] _ (fun x => [.int .i64 x.1]) (fun x => [ramE _ _ n, frE _ x.2, refE _ _ n, byE _ x.2]) (fun x => x.1 ≤ 200 ∧ x.2.length = n * 64 ∧ By x.2) (fun x => 200 - x.1) rfl rfl ⟨0, List.replicate (n * 64) 0⟩ ⟨by simp, by simp, By.rep _⟩ rfl ⟨_, rfl⟩ (fun st hst => ?_) | refine Lp.mk (α := Nat) [12] [5, 6, 8] _ (fun i => [.int .i64 i]) (fun i => [ramE _ _ n, frE _ st.2, refE _ _ n, byE _ st.2]) (fun i => i ≤ n) (fun i => n - i) rfl rfl 0 (by omega) rfl ⟨_, rfl⟩ (fun i hi => ?_))
    | (show Dr _ _ _ _ _ _ _ _ _; first | refine Dr.all (by kernel_rfl) ?_)
    | (show Vc.Fin _ _ _; first | refine Fin.take 0 (And.intro ?_ rfl))
    | refine ⟨⟨st.1 + 1, pdo n st.2 _⟩, ⟨by show st.1 + 1 ≤ 200; omega, pdo_length hst.2.1 _, By.pdo hst.2.2 _⟩, by show 200 - (st.1 + 1) < 200 - st.1; omega, rfl, ⟨_, rfl⟩⟩
    | refine ⟨i + 1, by omega, by omega, rfl, ⟨_, rfl⟩⟩
    | intro b)
  all_goals first
    | rfl
    | (show Value.bool _ = Value.bool _; congr 1; simp; done)
    | contradiction
    | (exfalso; omega)
theorem ptePlays_walk (a0 : Int) (w0 : (Lit.int .i64 a0).wf = true) (a1 : Option Addr) (len1 cap1 n1 : Nat) {W : World} (rd1 : Rd Try.prog W n1 65 (Value.slice a1 len1 cap1).cells.toList) :
    Calls Try.prog 9 #[.int .i64 a0, .slice a1 len1 cap1] W fun e w' => e = .returned (.bool true) ∧ RowKit.Below W.heap.size W w' := by
  obtain ⟨acts, h1, h4⟩ := rd_pacts rd1
  exact (ptePlays_con a0 a1 len1 cap1 W acts h1 h4).law
end Go.Proofs.Ytfamidjdhahfiaa
