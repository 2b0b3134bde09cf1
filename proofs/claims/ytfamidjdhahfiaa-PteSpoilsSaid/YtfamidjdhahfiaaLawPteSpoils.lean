/- 'viceroylaw02.PteSpoils' answers true at every input. Conditions: none beside the row's own. -/
import Derived.Test.YtfamidjdhahfiaaRows
import Derived.Test.YtfamidjdhahfiaaPteP
import Derived.Test.YtfamidjdhahfiaaAwake2
set_option linter.unusedVariables false
set_option linter.unusedSimpArgs false
set_option maxRecDepth 10000
set_option maxHeartbeats 4000000
namespace Go.Proofs.Ytfamidjdhahfiaa
open Vc Mem
theorem pteSpoils_con (i v : Int) (hv : 0 ≤ v ∧ v ≤ 65535) (x : Et) (w : World) :
    Con Try.prog 8 [.int .i64 i, .int .u16 v, etA x] w [] (fun y L' => y = .bool true ∧ L' = []) := by
  by_cases hi : 0 ≤ i ∧ i ≤ 31
  · obtain ⟨h0, h1⟩ := spoil_0 i v hi hv x
    have hl0 : (List.replicate (2 * 64) (0 : Int)).length = 2 * 64 := by simp
    have hl1 : (putL 2 (List.replicate (2 * 64) 0) 1 (31 - i) x).length = 2 * 64 := putL_length hl0 _ _ _
    have hl2 : (storeL 2 (putL 2 (List.replicate (2 * 64) 0) 1 (31 - i) x) (2 * i) 2 v).length = 2 * 64 := by rw [storeL_length, hl1]
    have hB : By (storeL 2 (putL 2 (List.replicate (2 * 64) 0) 1 (31 - i) x) (2 * i) 2 v) := (By.put (By.rep _) _ _ _).store _ _ _ _
    have hb : bad 2 (2 * i) 2 = 0 := bad_of ⟨by omega, by omega, by omega, by omega⟩
    have d0 : decide (¬ (0 : Int) = 0) = false := rfl
    refine Con.of_vc tabOk 90 [.tmp 6] Try.func8 rfl Try.ntmps8 Try.results8 rfl (Own.nil' w) ?_
    repeat' ((conv => whnf); first
      | (simp only [hb, h0, h1, decV_et] at hx)
      | (replace hx := (show _ ∨ _ from hx); rcases hx with ⟨hA, d, rfl, rfl⟩ | ⟨hA, rfl, rfl⟩ <;> refine ⟨rfl, ?_⟩)
      | (obtain ⟨rfl, rfl⟩ := hx; refine ⟨rfl, ?_⟩)
      | (obtain ⟨b, rfl, rfl⟩ := hx; refine ⟨rfl, ?_⟩)
      | (obtain ⟨b, c, rfl, rfl⟩ := hx; refine ⟨rfl, ?_⟩)
      | (show gsplit _ _ _; first | refine gsplit.tt ?_ | refine gsplit.ff ?_ | refine gsplit.dpos (by omega) ?_ | refine gsplit.dneg (by omega) ?_ | refine gsplit.npos (by omega) ?_ | refine gsplit.nneg (by omega) ?_ | refine gsplit.dec (fun hc => ?_) (fun hc => ?_) | refine gsplit.ndec (fun hc => ?_) (fun hc => ?_) | refine gsplit.eq (fun hc => ?_) (fun hc => ?_) | refine gsplit.neq (fun hc => ?_) (fun hc => ?_))
      | (show YQ _ _ _ _ _ _; first | refine qeqp Try.underlying25 ?_ | refine qeqb Try.underlying4 ?_ | refine YQ.remN (by omega) ?_ | refine YQ.quoN (by omega) ?_ | refine YQ.len tabOk rfl ?_ | refine YQ.idx tabOk rfl (by omega) ?_ | refine YQ.idxA tabOk rfl (by omega) ?_ | refine YQ.sliceA tabOk rfl (by omega) (by omega) ?_ | refine YQ.sliceAll tabOk rfl ?_ | refine YQ.load1 tabOk rfl 0 rfl rfl ?_ | refine YQ.load1 tabOk rfl 1 rfl rfl ?_ | refine YQ.load1 tabOk rfl 2 rfl rfl ?_ | refine YQ.load1 tabOk rfl 3 rfl rfl ?_ | refine YQ.load1 tabOk rfl 4 rfl rfl ?_ | refine YQ.load1 tabOk rfl 5 rfl rfl ?_ | refine YQ.loadF tabOk rfl 0 rfl rfl ?_ | refine YQ.loadF tabOk rfl 1 rfl rfl ?_ | refine YQ.loadF tabOk rfl 2 rfl rfl ?_ | refine YQ.loadF tabOk rfl 3 rfl rfl ?_ | refine YQ.loadF tabOk rfl 4 rfl rfl ?_ | refine YQ.loadF tabOk rfl 5 rfl rfl ?_ | refine YQ.loadA tabOk rfl 0 rfl rfl rfl ?_ | refine YQ.loadA tabOk rfl 1 rfl rfl rfl ?_ | refine YQ.loadA tabOk rfl 2 rfl rfl rfl ?_ | refine YQ.loadA tabOk rfl 3 rfl rfl rfl ?_ | refine YQ.loadA tabOk rfl 4 rfl rfl rfl ?_ | refine YQ.build tabOk rfl rfl rfl ?_ | refine YQ.eqF tabOk rfl rfl rfl ?_ | refine YQ.neF tabOk rfl rfl rfl ?_)
      | (show YC _ _ _ _ _ _ _; first | refine YC.conR [] [] rfl rfl (fun w _ _ => awake2_con w) (fun x L' hx => ?_) | refine YC.conR [] [] rfl rfl (fun w _ _ => ramNew_ok 2 2 (by omega) w) (fun x L' hx => ?_) | refine YC.conR [1, 2] _ rfl rfl (fun w hw0 hw => put_con _ _ 2 (by omega) _ hl0 1 (31 - i) x w hw) (fun x L' hx => ?_) | refine YC.conR [1, 2] _ rfl rfl (fun w hw0 hw => store_con _ _ 2 (by omega) _ hl1 (2 * i) 2 v (by omega) w hw) (fun x L' hx => ?_) | refine YC.conR [] [] rfl rfl (fun w _ _ => dec_con v w hv) (fun x L' hx => ?_) | refine YC.conR [1, 2] _ rfl rfl (fun w hw0 hw => all_con _ _ 2 (by omega) _ hB hl2 0 w hw) (fun x L' hx => ?_) | refine YC.conR [1, 2] _ rfl rfl (fun w hw0 hw => all_con _ _ 2 (by omega) _ hB hl2 1 w hw) (fun x L' hx => ?_))
      | (show YU _ _ _ _ _ _ _ _; first | refine YU.store1L tabOk rfl rfl 0 rfl rfl ?_ | refine YU.store1L tabOk rfl rfl 1 rfl rfl ?_ | refine YU.store1L tabOk rfl rfl 2 rfl rfl ?_ | refine YU.store1L tabOk rfl rfl 3 rfl rfl ?_ | refine YU.store1L tabOk rfl rfl 4 rfl rfl ?_ | refine YU.storeF tabOk rfl rfl rfl 0 rfl rfl ?_ | refine YU.storeF tabOk rfl rfl rfl 1 rfl rfl ?_ | refine YU.storeF tabOk rfl rfl rfl 2 rfl rfl ?_ | refine YU.storeF tabOk rfl rfl rfl 3 rfl rfl ?_ | refine YU.storeF tabOk rfl rfl rfl 4 rfl rfl ?_ | refine YU.storeF tabOk rfl rfl rfl 5 rfl rfl ?_ | refine YU.storeAL tabOk rfl rfl rfl 0 rfl rfl ?_ | refine YU.storeAL tabOk rfl rfl rfl 1 rfl rfl ?_ | refine YU.storeAL tabOk rfl rfl rfl 2 rfl rfl ?_ | refine YU.storeAL tabOk rfl rfl rfl 3 rfl rfl ?_ | refine YU.storeAL tabOk rfl rfl rfl 4 rfl rfl ?_)
      | (show Wr _ _ _; first | refine Wr.i64 (by omega) ?_ | refine Wr.u8 (by omega) ?_ | refine Wr.u16 (by omega) ?_ | refine Wr.u32 (by omega) ?_)
      | (show BIf _ _ _; first | refine BIf.pos rfl ?_ | refine BIf.neg rfl ?_)
      | (show Dr _ _ _ _ _ _ _ _ _; first | refine Dr.all (by kernel_rfl) ?_)
      | (show Vc.Fin _ _ _; first | refine Fin.take 0 (And.intro ?_ rfl))
      | intro b)
    all_goals first
      | rfl
      | contradiction
      | (exfalso; omega)
      | (exfalso; exact hA rfl)
      | (show Value.bool _ = Value.bool _; congr 1; simp; done)
      | (exfalso; rename_i hz; simp [hA] at hz; done)
      | (exfalso; simp_all; done)
  · refine Con.of_vc tabOk 90 [.tmp 6] Try.func8 rfl Try.ntmps8 Try.results8 rfl (Own.nil' w) ?_
    repeat' ((conv => whnf); first
      | (obtain ⟨rfl, rfl⟩ := hx; refine ⟨rfl, ?_⟩)
      | (obtain ⟨b, rfl, rfl⟩ := hx; refine ⟨rfl, ?_⟩)
      | (obtain ⟨b, c, rfl, rfl⟩ := hx; refine ⟨rfl, ?_⟩)
      | (show gsplit _ _ _; first | refine gsplit.tt ?_ | refine gsplit.ff ?_ | refine gsplit.dpos (by omega) ?_ | refine gsplit.dneg (by omega) ?_ | refine gsplit.npos (by omega) ?_ | refine gsplit.nneg (by omega) ?_ | refine gsplit.dec (fun hc => ?_) (fun hc => ?_) | refine gsplit.ndec (fun hc => ?_) (fun hc => ?_) | refine gsplit.eq (fun hc => ?_) (fun hc => ?_) | refine gsplit.neq (fun hc => ?_) (fun hc => ?_))
      | (show YQ _ _ _ _ _ _; first | refine qeqp Try.underlying25 ?_ | refine YQ.remN (by omega) ?_ | refine YQ.quoN (by omega) ?_ | refine YQ.len tabOk rfl ?_ | refine YQ.idx tabOk rfl (by omega) ?_ | refine YQ.idxA tabOk rfl (by omega) ?_ | refine YQ.sliceA tabOk rfl (by omega) (by omega) ?_ | refine YQ.sliceAll tabOk rfl ?_ | refine YQ.load1 tabOk rfl 0 rfl rfl ?_ | refine YQ.load1 tabOk rfl 1 rfl rfl ?_ | refine YQ.load1 tabOk rfl 2 rfl rfl ?_ | refine YQ.load1 tabOk rfl 3 rfl rfl ?_ | refine YQ.load1 tabOk rfl 4 rfl rfl ?_ | refine YQ.load1 tabOk rfl 5 rfl rfl ?_ | refine YQ.loadF tabOk rfl 0 rfl rfl ?_ | refine YQ.loadF tabOk rfl 1 rfl rfl ?_ | refine YQ.loadF tabOk rfl 2 rfl rfl ?_ | refine YQ.loadF tabOk rfl 3 rfl rfl ?_ | refine YQ.loadF tabOk rfl 4 rfl rfl ?_ | refine YQ.loadF tabOk rfl 5 rfl rfl ?_ | refine YQ.loadA tabOk rfl 0 rfl rfl rfl ?_ | refine YQ.loadA tabOk rfl 1 rfl rfl rfl ?_ | refine YQ.loadA tabOk rfl 2 rfl rfl rfl ?_ | refine YQ.loadA tabOk rfl 3 rfl rfl rfl ?_ | refine YQ.loadA tabOk rfl 4 rfl rfl rfl ?_ | refine YQ.build tabOk rfl rfl rfl ?_ | refine YQ.eqF tabOk rfl rfl rfl ?_ | refine YQ.neF tabOk rfl rfl rfl ?_)
      | (show YC _ _ _ _ _ _ _; first | refine YC.conR [] [] rfl rfl (fun w _ _ => awake2_con w) (fun x L' hx => ?_) | refine YC.conR [] [] rfl rfl (fun w _ _ => ramNew_ok 2 2 (by omega) w) (fun x L' hx => ?_))
      | (show YU _ _ _ _ _ _ _ _; first | refine YU.store1L tabOk rfl rfl 0 rfl rfl ?_ | refine YU.store1L tabOk rfl rfl 1 rfl rfl ?_ | refine YU.store1L tabOk rfl rfl 2 rfl rfl ?_ | refine YU.store1L tabOk rfl rfl 3 rfl rfl ?_ | refine YU.store1L tabOk rfl rfl 4 rfl rfl ?_ | refine YU.storeF tabOk rfl rfl rfl 0 rfl rfl ?_ | refine YU.storeF tabOk rfl rfl rfl 1 rfl rfl ?_ | refine YU.storeF tabOk rfl rfl rfl 2 rfl rfl ?_ | refine YU.storeF tabOk rfl rfl rfl 3 rfl rfl ?_ | refine YU.storeF tabOk rfl rfl rfl 4 rfl rfl ?_ | refine YU.storeF tabOk rfl rfl rfl 5 rfl rfl ?_ | refine YU.storeAL tabOk rfl rfl rfl 0 rfl rfl ?_ | refine YU.storeAL tabOk rfl rfl rfl 1 rfl rfl ?_ | refine YU.storeAL tabOk rfl rfl rfl 2 rfl rfl ?_ | refine YU.storeAL tabOk rfl rfl rfl 3 rfl rfl ?_ | refine YU.storeAL tabOk rfl rfl rfl 4 rfl rfl ?_)
      | (show Wr _ _ _; first | refine Wr.i64 (by omega) ?_ | refine Wr.u8 (by omega) ?_ | refine Wr.u16 (by omega) ?_ | refine Wr.u32 (by omega) ?_)
      | (show BIf _ _ _; first | refine BIf.pos rfl ?_ | refine BIf.neg rfl ?_)
      | (show Dr _ _ _ _ _ _ _ _ _; first | refine Dr.all (by kernel_rfl) ?_)
      | (show Vc.Fin _ _ _; first | refine Fin.take 0 (And.intro ?_ rfl))
      | intro b)
    all_goals first
      | rfl
      | contradiction
      | (exfalso; omega)
theorem pteSpoils_walk (i : Int) (w0 : (Lit.int .i64 i).wf = true) (v : Int) (w1 : (Lit.int .u16 v).wf = true) (a2 : Array Value) (n2 : Nat) {W : World} (rd2 : Rd Try.prog W n2 67 (Value.agg a2).cells.toList) (w : World) :
    Calls Try.prog 8 #[.int .i64 i, .int .u16 v, .agg a2] w fun e w' => e = .returned (.bool true) ∧ RowKit.Below w.heap.size w w' := by
  obtain ⟨a, b, c, d, h, -⟩ := rd_entry rd2
  have : a2 = (etV ⟨a, b, c, d⟩).toArray := by apply Array.ext'; exact h
  subst this
  exact (pteSpoils_con i v (wf_u16 w1) ⟨a, b, c, d⟩ w).law
end Go.Proofs.Ytfamidjdhahfiaa
