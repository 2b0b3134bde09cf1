/- 'viceroylaw02.PteIndices' answers true at every two whole numbers. Conditions: none beside the row's own. -/
import Derived.Test.YtmpjdoodpkhmpaaRows
import Derived.Test.YtmpjdoodpkhmpaaAwake2
import Derived.Test.YtmpjdoodpkhmpaaFrame
import Derived.ProofKit
import Derived.OpenShut
set_option linter.unusedVariables false
set_option linter.unusedSimpArgs false
set_option maxRecDepth 10000
namespace Go.Proofs.Ytmpjdoodpkhmpaa
open Vc
theorem indexI_in0 {p : Int} (h : 0 ≤ p ∧ p ≤ 1023) : indexI p 0 = p / 32 := by unfold indexI; rw [if_pos h, if_pos rfl]
theorem indexI_in1 {p : Int} (h : 0 ≤ p ∧ p ≤ 1023) : indexI p 1 = p % 32 := by unfold indexI; rw [if_pos h, if_neg (by omega), if_pos rfl]
theorem indexI_out {p k : Int} (h : ¬(0 ≤ p ∧ p ≤ 1023)) : indexI p k = 0 := by unfold indexI; rw [if_neg h]
theorem pteIndices_con (page other : Int) (w : World) : Con Try.prog 7 [.int .i64 page, .int .i64 other] w [] (fun x L' => x = .bool true ∧ L' = []) := by
  obtain ⟨a, b, c, d, ha, hb, hc, hd, hin, hout⟩ : ∃ a b c d : Int, indexI page 0 = a ∧ indexI page 1 = b ∧ indexI other 0 = c ∧ indexI other 1 = d ∧
      (0 ≤ page ∧ page ≤ 1023 ∧ a = page / 32 ∧ b = page % 32 ∨ (page < 0 ∨ 1023 < page) ∧ a = 0 ∧ b = 0) ∧ (0 ≤ other ∧ other ≤ 1023 ∧ c = other / 32 ∧ d = other % 32 ∨ (other < 0 ∨ 1023 < other) ∧ c = 0 ∧ d = 0) := by
    refine ⟨_, _, _, _, rfl, rfl, rfl, rfl, ?_, ?_⟩
    · by_cases h : 0 ≤ page ∧ page ≤ 1023
      · exact .inl ⟨h.1, h.2, indexI_in0 h, indexI_in1 h⟩
      · exact .inr ⟨by omega, indexI_out h, indexI_out h⟩
    · by_cases h : 0 ≤ other ∧ other ≤ 1023
      · exact .inl ⟨h.1, h.2, indexI_in0 h, indexI_in1 h⟩
      · exact .inr ⟨by omega, indexI_out h, indexI_out h⟩
  rcases hin with ⟨p0, p1, rfl, rfl⟩ | ⟨hp, rfl, rfl⟩
  · rcases hout with ⟨o0, o1, rfl, rfl⟩ | ⟨ho, rfl, rfl⟩
    all_goals
      refine Con.of_vc tabOk 79 [.tmp 4] Try.func7 rfl Try.ntmps7 Try.results7 rfl (Own.nil w) ?_
      repeat' ((conv => whnf); first
        | refine YC.con [] [] rfl rfl (fun w _ _ => awake2_con w) (fun x L' hx => ?_)
        | refine YC.con [] [] rfl rfl (fun w _ _ => index_con _ _ w) (fun x L' hx => ?_)
        | (obtain ⟨rfl, rfl⟩ := hx; simp only [ha, hb, hc, hd]; refine ⟨rfl, ?_⟩)
        | (obtain ⟨rfl, rfl⟩ := hx; refine ⟨rfl, ?_⟩)
        | refine qeqb Try.underlying4 ?_
        | refine Fin.take 0 (And.intro ?_ rfl)
        | refine gsplit.dpos (by omega) ?_
        | refine gsplit.dneg (by omega) ?_
        | refine gsplit.npos (by omega) ?_
        | refine gsplit.nneg (by omega) ?_
        | refine gsplit.dec (fun hc => ?_) (fun hc => ?_)
        | refine gsplit.ndec (fun hc => ?_) (fun hc => ?_)
        | refine BIf.pos rfl ?_
        | refine BIf.neg rfl ?_
        | refine Wr.i64 (by omega) ?_
        | refine Wr.u8 (by omega) ?_
        | refine Wr.u16 (by omega) ?_
        | refine Wr.u32 (by omega) ?_
        | refine YQ.remN (by omega) ?_
        | refine YQ.quoN (by omega) ?_
        | refine YQ.len tabOk rfl ?_
        | refine YQ.idx tabOk rfl (by omega) ?_
        | refine YQ.idxA tabOk rfl (by omega) ?_
        | refine YQ.sliceA tabOk rfl (by omega) (by omega) ?_
        | refine YQ.sliceAll tabOk rfl ?_
        | refine YQ.load1 tabOk rfl 0 rfl rfl ?_
        | refine YQ.load1 tabOk rfl 1 rfl rfl ?_
        | refine YQ.load1 tabOk rfl 2 rfl rfl ?_
        | refine YQ.load1 tabOk rfl 3 rfl rfl ?_
        | refine YQ.load1 tabOk rfl 4 rfl rfl ?_
        | refine YQ.load1 tabOk rfl 5 rfl rfl ?_
        | refine YQ.loadA tabOk rfl 0 rfl rfl rfl ?_
        | refine YQ.loadA tabOk rfl 1 rfl rfl rfl ?_
        | refine YQ.loadA tabOk rfl 2 rfl rfl rfl ?_
        | refine YQ.loadA tabOk rfl 3 rfl rfl rfl ?_
        | refine YQ.loadA tabOk rfl 4 rfl rfl rfl ?_
        | refine YU.store1L tabOk rfl rfl 0 rfl rfl ?_
        | refine YU.store1L tabOk rfl rfl 1 rfl rfl ?_
        | refine YU.store1L tabOk rfl rfl 2 rfl rfl ?_
        | refine YU.store1L tabOk rfl rfl 3 rfl rfl ?_
        | refine YU.store1L tabOk rfl rfl 4 rfl rfl ?_
        | refine YU.storeAL tabOk rfl rfl rfl 0 rfl rfl ?_
        | refine YU.storeAL tabOk rfl rfl rfl 1 rfl rfl ?_
        | refine YU.storeAL tabOk rfl rfl rfl 2 rfl rfl ?_
        | refine YU.storeAL tabOk rfl rfl rfl 3 rfl rfl ?_
        | refine YU.storeAL tabOk rfl rfl rfl 4 rfl rfl ?_
        | refine YQ.build tabOk rfl rfl rfl ?_
        | refine YQ.eqF tabOk rfl rfl rfl ?_
        | refine YQ.neF tabOk rfl rfl rfl ?_
        | refine gsplit.eq (fun hc => ?_) (fun hc => ?_)
        | refine gsplit.neq (fun hc => ?_) (fun hc => ?_)
        | intro b)
    all_goals first
      | rfl
      | (show Value.bool _ = Value.bool _; congr 1; simp; omega)
      | (exfalso; omega)
  · refine Con.of_vc tabOk 79 [.tmp 4] Try.func7 rfl Try.ntmps7 Try.results7 rfl (Own.nil w) ?_
    repeat' ((conv => whnf); first
      | refine YC.con [] [] rfl rfl (fun w _ _ => awake2_con w) (fun x L' hx => ?_)
      | refine YC.con [] [] rfl rfl (fun w _ _ => index_con _ _ w) (fun x L' hx => ?_)
      | (obtain ⟨rfl, rfl⟩ := hx; simp only [ha, hb, hc, hd]; refine ⟨rfl, ?_⟩)
      | (obtain ⟨rfl, rfl⟩ := hx; refine ⟨rfl, ?_⟩)
      | refine qeqb Try.underlying4 ?_
      | refine Fin.take 0 (And.intro ?_ rfl)
      | refine gsplit.dpos (by omega) ?_
      | refine gsplit.dneg (by omega) ?_
      | refine gsplit.npos (by omega) ?_
      | refine gsplit.nneg (by omega) ?_
      | refine gsplit.dec (fun hc => ?_) (fun hc => ?_)
      | refine gsplit.ndec (fun hc => ?_) (fun hc => ?_)
      | refine BIf.pos rfl ?_
      | refine BIf.neg rfl ?_
      | refine Wr.i64 (by omega) ?_
      | refine Wr.u8 (by omega) ?_
      | refine Wr.u16 (by omega) ?_
      | refine Wr.u32 (by omega) ?_
      | refine YQ.remN (by omega) ?_
      | refine YQ.quoN (by omega) ?_
      | refine YQ.len tabOk rfl ?_
      | refine YQ.idx tabOk rfl (by omega) ?_
      | refine YQ.idxA tabOk rfl (by omega) ?_
      | refine YQ.sliceA tabOk rfl (by omega) (by omega) ?_
      | refine YQ.sliceAll tabOk rfl ?_
      | refine YQ.load1 tabOk rfl 0 rfl rfl ?_
      | refine YQ.load1 tabOk rfl 1 rfl rfl ?_
      | refine YQ.load1 tabOk rfl 2 rfl rfl ?_
      | refine YQ.load1 tabOk rfl 3 rfl rfl ?_
      | refine YQ.load1 tabOk rfl 4 rfl rfl ?_
      | refine YQ.load1 tabOk rfl 5 rfl rfl ?_
      | refine YQ.loadA tabOk rfl 0 rfl rfl rfl ?_
      | refine YQ.loadA tabOk rfl 1 rfl rfl rfl ?_
      | refine YQ.loadA tabOk rfl 2 rfl rfl rfl ?_
      | refine YQ.loadA tabOk rfl 3 rfl rfl rfl ?_
      | refine YQ.loadA tabOk rfl 4 rfl rfl rfl ?_
      | refine YU.store1L tabOk rfl rfl 0 rfl rfl ?_
      | refine YU.store1L tabOk rfl rfl 1 rfl rfl ?_
      | refine YU.store1L tabOk rfl rfl 2 rfl rfl ?_
      | refine YU.store1L tabOk rfl rfl 3 rfl rfl ?_
      | refine YU.store1L tabOk rfl rfl 4 rfl rfl ?_
      | refine YU.storeAL tabOk rfl rfl rfl 0 rfl rfl ?_
      | refine YU.storeAL tabOk rfl rfl rfl 1 rfl rfl ?_
      | refine YU.storeAL tabOk rfl rfl rfl 2 rfl rfl ?_
      | refine YU.storeAL tabOk rfl rfl rfl 3 rfl rfl ?_
      | refine YU.storeAL tabOk rfl rfl rfl 4 rfl rfl ?_
      | refine YQ.build tabOk rfl rfl rfl ?_
      | refine YQ.eqF tabOk rfl rfl rfl ?_
      | refine YQ.neF tabOk rfl rfl rfl ?_
      | refine gsplit.eq (fun hc => ?_) (fun hc => ?_)
      | refine gsplit.neq (fun hc => ?_) (fun hc => ?_)
      | intro b)
    all_goals rfl
theorem pteIndices_walk (page : Int) (w0 : (Lit.int .i64 page).wf = true) (other : Int) (w1 : (Lit.int .i64 other).wf = true) (w : World) :
    Calls Try.prog 7 #[.int .i64 page, .int .i64 other] w fun e w' => e = .returned (.bool true) ∧ RowKit.Below w.heap.size w w' := (pteIndices_con page other w).law
end Go.Proofs.Ytmpjdoodpkhmpaa
