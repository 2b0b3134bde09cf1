/- The examples of the buffer come out. Conditions: none. -/
import Derived.Test.YtfamidjdhahfiaaTlb3
import Derived.Test.YtfamidjdhahfiaaFrame
import Derived.ProofKit
import Derived.OpenShut
set_option linter.unusedVariables false
set_option linter.unusedSimpArgs false
set_option maxRecDepth 10000
set_option maxHeartbeats 4000000
namespace Go.Proofs.Ytfamidjdhahfiaa
open Vc
abbrev S0 : List Ln := List.replicate 8 ln0
theorem s1 : fillL 0 ⟨1, 2, 3, 4, 5⟩ S0 = [⟨1, 2, 3, 4, 5⟩, ln0, ln0, ln0, ln0, ln0, ln0, ln0] := by decide
theorem s2 : [⟨1, 2, 3, 4, 5⟩, ln0, ln0, ln0, ln0, ln0, ln0, ln0].find? (mt 1 2 3) = some ⟨1, 2, 3, 4, 5⟩ := by decide
theorem s3 : fillL 7 ⟨1, 2, 3, 9, 1⟩ [⟨1, 2, 3, 4, 5⟩, ln0, ln0, ln0, ln0, ln0, ln0, ln0] = [ln0, ln0, ln0, ln0, ln0, ln0, ln0, ⟨1, 2, 3, 9, 1⟩] := by decide
theorem s4 : [ln0, ln0, ln0, ln0, ln0, ln0, ln0, ⟨1, 2, 3, 9, 1⟩].find? (mt 1 2 3) = some ⟨1, 2, 3, 9, 1⟩ := by decide
theorem s5 : flL (prPage 1 3) [ln0, ln0, ln0, ln0, ln0, ln0, ln0, ⟨1, 2, 3, 9, 1⟩] = S0 := by decide
theorem s6 : flN (prPage 1 3) [ln0, ln0, ln0, ln0, ln0, ln0, ln0, ⟨1, 2, 3, 9, 1⟩] = 1 := by decide
theorem s7 : flN prAll S0 = 0 := by decide
theorem s8 : flL prAll S0 = S0 := by decide
theorem s9 : fillL 0 ln0 S0 = S0 := by decide
theorem e1 : fillE 0 ⟨1, 2, 3, 4, 5⟩ = 0 := by decide
theorem e2 : fillE 7 ⟨1, 2, 3, 9, 1⟩ = 0 := by decide
theorem e3 : fillE 0 ln0 = 30 := by decide
theorem e4 : up 0 = 1 := by decide
theorem e5 : up 1 = 2 := by decide
theorem awake3_con (w : World) : Con Try.prog 19 [] w [] (fun x L' => x = .bool true ∧ L' = []) := by
  refine Con.of_vc tabOk 89 [.tmp 0] Try.func19 rfl Try.ntmps19 Try.results19 rfl (Own.nil' w) ?_
  repeat' ((conv => whnf); first
    | (simp only [s1, s2, s3, s4, s5, s6, s7, s8, s9, e1, e2, e3, fndV, fndF, fndM, e4, e5] at hx; obtain ⟨rfl, rfl⟩ := hx; refine ⟨rfl, ?_⟩)
    | (obtain ⟨rfl, rfl⟩ := hx; refine ⟨rfl, ?_⟩)
    | (obtain ⟨b, rfl, rfl⟩ := hx; refine ⟨rfl, ?_⟩)
    | (obtain ⟨b, c, rfl, rfl⟩ := hx; refine ⟨rfl, ?_⟩)
    | (obtain ⟨rfl, rfl⟩ := hx; refine ⟨rfl, ?_⟩)
    | (obtain ⟨b, rfl, rfl⟩ := hx; refine ⟨rfl, ?_⟩)
    | (obtain ⟨rfl, rfl⟩ := hx; refine ⟨rfl, ?_⟩)
    | (obtain ⟨b, rfl, rfl⟩ := hx; refine ⟨rfl, ?_⟩)
    | (obtain ⟨b, c, rfl, rfl⟩ := hx; refine ⟨rfl, ?_⟩)
    | (show gsplit _ _ _; first | refine gsplit.tt ?_ | refine gsplit.ff ?_ | refine gsplit.dpos (by omega) ?_ | refine gsplit.dneg (by omega) ?_ | refine gsplit.npos (by omega) ?_ | refine gsplit.nneg (by omega) ?_ | refine gsplit.dec (fun hc => ?_) (fun hc => ?_) | refine gsplit.ndec (fun hc => ?_) (fun hc => ?_) | refine gsplit.eq (fun hc => ?_) (fun hc => ?_) | refine gsplit.neq (fun hc => ?_) (fun hc => ?_))
    | (show YQ _ _ _ _ _ _; first | refine qeqp Try.underlying45 ?_ | refine YQ.remN (by omega) ?_ | refine YQ.quoN (by omega) ?_ | refine YQ.len tabOk rfl ?_ | refine YQ.idx tabOk rfl (by omega) ?_ | refine YQ.idxA tabOk rfl (by omega) ?_ | refine YQ.sliceA tabOk rfl (by omega) (by omega) ?_ | refine YQ.sliceAll tabOk rfl ?_ | refine YQ.load1 tabOk rfl 0 rfl rfl ?_ | refine YQ.load1 tabOk rfl 1 rfl rfl ?_ | refine YQ.load1 tabOk rfl 2 rfl rfl ?_ | refine YQ.load1 tabOk rfl 3 rfl rfl ?_ | refine YQ.load1 tabOk rfl 4 rfl rfl ?_ | refine YQ.load1 tabOk rfl 5 rfl rfl ?_ | refine YQ.loadF tabOk rfl 0 rfl rfl ?_ | refine YQ.loadF tabOk rfl 1 rfl rfl ?_ | refine YQ.loadF tabOk rfl 2 rfl rfl ?_ | refine YQ.loadF tabOk rfl 3 rfl rfl ?_ | refine YQ.loadF tabOk rfl 4 rfl rfl ?_ | refine YQ.loadF tabOk rfl 5 rfl rfl ?_ | refine YQ.loadA tabOk rfl 0 rfl rfl rfl ?_ | refine YQ.loadA tabOk rfl 1 rfl rfl rfl ?_ | refine YQ.loadA tabOk rfl 2 rfl rfl rfl ?_ | refine YQ.loadA tabOk rfl 3 rfl rfl rfl ?_ | refine YQ.loadA tabOk rfl 4 rfl rfl rfl ?_ | refine YQ.build tabOk rfl rfl rfl ?_ | refine YQ.eqF tabOk rfl rfl rfl ?_ | refine YQ.neF tabOk rfl rfl rfl ?_)
    | (show YC _ _ _ _ _ _ _; first | refine YC.con [] [] rfl rfl (fun w _ _ => new_con w) (fun x L' hx => ?_) | refine YC.con [0] _ rfl rfl (fun w _ hw => fill_con _ S0 (by decide) _ _ w hw 0 ⟨1, 2, 3, 4, 5⟩) (fun x L' hx => ?_) | refine YC.con [0] _ rfl rfl (fun w _ hw => fill_con _ [⟨1, 2, 3, 4, 5⟩, ln0, ln0, ln0, ln0, ln0, ln0, ln0] (by decide) _ _ w hw 7 ⟨1, 2, 3, 9, 1⟩) (fun x L' hx => ?_) | refine YC.con [0] _ rfl rfl (fun w _ hw => fill_con _ S0 (by decide) _ _ w hw 0 ln0) (fun x L' hx => ?_) | refine YC.con [0] _ rfl rfl (fun w _ hw => find_con _ [⟨1, 2, 3, 4, 5⟩, ln0, ln0, ln0, ln0, ln0, ln0, ln0] (by decide) _ _ 1 2 3 w hw) (fun x L' hx => ?_) | refine YC.con [0] _ rfl rfl (fun w _ hw => find_con _ [ln0, ln0, ln0, ln0, ln0, ln0, ln0, ⟨1, 2, 3, 9, 1⟩] (by decide) _ _ 1 2 3 w hw) (fun x L' hx => ?_) | refine YC.con [0] _ rfl rfl (fun w _ hw => flushPage_con _ [ln0, ln0, ln0, ln0, ln0, ln0, ln0, ⟨1, 2, 3, 9, 1⟩] (by decide) _ _ w hw 1 3) (fun x L' hx => ?_) | refine YC.con [0] _ rfl rfl (fun w _ hw => flushAll_con _ S0 (by decide) _ _ w hw) (fun x L' hx => ?_) | refine YC.con [0] _ rfl rfl (fun w _ hw => counts_con _ S0 (by decide) _ _ w hw) (fun x L' hx => ?_))
    | (show YU _ _ _ _ _ _ _ _; first | refine YU.store1L tabOk rfl rfl 0 rfl rfl ?_ | refine YU.store1L tabOk rfl rfl 1 rfl rfl ?_ | refine YU.store1L tabOk rfl rfl 2 rfl rfl ?_ | refine YU.store1L tabOk rfl rfl 3 rfl rfl ?_ | refine YU.store1L tabOk rfl rfl 4 rfl rfl ?_ | refine YU.storeF tabOk rfl rfl rfl 0 rfl rfl ?_ | refine YU.storeF tabOk rfl rfl rfl 1 rfl rfl ?_ | refine YU.storeF tabOk rfl rfl rfl 2 rfl rfl ?_ | refine YU.storeF tabOk rfl rfl rfl 3 rfl rfl ?_ | refine YU.storeF tabOk rfl rfl rfl 4 rfl rfl ?_ | refine YU.storeF tabOk rfl rfl rfl 5 rfl rfl ?_ | refine YU.storeAL tabOk rfl rfl rfl 0 rfl rfl ?_ | refine YU.storeAL tabOk rfl rfl rfl 1 rfl rfl ?_ | refine YU.storeAL tabOk rfl rfl rfl 2 rfl rfl ?_ | refine YU.storeAL tabOk rfl rfl rfl 3 rfl rfl ?_ | refine YU.storeAL tabOk rfl rfl rfl 4 rfl rfl ?_)
    | (show Wr _ _ _; first | refine Wr.i64 (by omega) ?_ | refine Wr.u8 (by omega) ?_ | refine Wr.u16 (by omega) ?_ | refine Wr.u32 (by omega) ?_)
    | (show BIf _ _ _; first | refine BIf.pos rfl ?_ | refine BIf.neg rfl ?_)
    | (show Dr _ _ _ _ _ _ _ _ _; first | refine Dr.all (by kernel_rfl) ?_)
    | (show Vc.Fin _ _ _; first | refine Fin.take 0 (And.intro ?_ rfl))
    | intro b)
  all_goals rfl
end Go.Proofs.Ytfamidjdhahfiaa
