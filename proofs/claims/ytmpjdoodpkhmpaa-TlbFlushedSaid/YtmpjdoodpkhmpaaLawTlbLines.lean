/- 'viceroylaw03.TlbLines' answers true at every line and entry. Conditions: none beside the row's own. -/
import Derived.Test.YtmpjdoodpkhmpaaRows
import Derived.Test.YtmpjdoodpkhmpaaAwake3
import Derived.Test.YtmpjdoodpkhmpaaFrame
import Derived.ProofKit
import Derived.OpenShut
set_option linter.unusedVariables false
set_option linter.unusedSimpArgs false
set_option maxRecDepth 10000
set_option maxHeartbeats 4000000
namespace Go.Proofs.Ytmpjdoodpkhmpaa
open Vc
theorem flS0 (pr : Ln → Bool) : flL pr S0 = S0 := by
  simp [flL, S0]
theorem find_set0 (x : Ln) (h : lnRight x) (i : Nat) (hi : i < 8) : (S0.set i x).find? (mt x.v x.a x.p) = some x := by
  have h0 : mt x.v x.a x.p ln0 = false := by simp [mt]
  have h1 : mt x.v x.a x.p x = true := by
    simp only [mt, decide_eq_true_eq, and_self, and_true]
    intro e
    subst e
    exact absurd h (by decide)
  obtain rfl | rfl | rfl | rfl | rfl | rfl | rfl | rfl : i = 0 ∨ i = 1 ∨ i = 2 ∨ i = 3 ∨ i = 4 ∨ i = 5 ∨ i = 6 ∨ i = 7 := by omega
  all_goals simp [S0, List.replicate, List.find?, h0, h1]
theorem find_none0 (v a p : Int) : S0.find? (mt v a p) = none := by
  have h0 : mt v a p ln0 = false := by simp [mt]
  simp [S0, List.find?, List.replicate, h0]
theorem tlbLines_con (x : Ln) (at_ : Int) (w : World) : Con Try.prog 3 [lnA x, .int .i64 at_] w [] (fun y L' => y = .bool true ∧ L' = []) := by
  by_cases hr : lnRight x
  · by_cases ha : atP at_
    · have ea : fillE at_ x = 0 := (if_pos ha).trans (if_pos hr)
      have el : fillL at_ x S0 = S0.set at_.toNat x := by rw [fillL, if_pos ⟨ha, hr⟩, flS0]
      have ef : (S0.set at_.toNat x).find? (mt x.v x.a x.p) = some x := find_set0 x hr _ (by unfold atP at ha; omega)
      unfold atP at ha
      refine Con.of_vc tabOk 90 [.tmp 4] Try.func3 rfl Try.ntmps3 Try.results3 rfl (Own.nil' w) ?_
      repeat' ((conv => whnf); first
        | refine YC.con [] [] rfl rfl (fun w _ _ => awake3_con w) (fun x L' hx => ?_)
        | refine YC.con [] [] rfl rfl (fun w _ _ => new_con w) (fun x L' hx => ?_)
        | refine YC.con [] [] rfl rfl (fun w _ _ => lright_con x w) (fun x L' hx => ?_)
        | refine YC.con [] [] rfl rfl (fun w _ _ => lright_ref x w) (fun x L' hx => ?_)
        | refine YC.con [1] _ rfl rfl (fun w _ hw => fill_con _ S0 (by decide) _ _ w hw at_ x) (fun x L' hx => ?_)
        | refine YC.con [1] _ rfl rfl (fun w _ hw => find_con _ (S0.set at_.toNat x) (by simp) _ _ x.v x.a x.p w hw) (fun x L' hx => ?_)
        | (simp only [ea, el, ef, decide_eq_true hr, fndV, fndF, fndM] at hx; obtain ⟨rfl, rfl⟩ := hx; refine ⟨rfl, ?_⟩)
        | (obtain ⟨rfl, rfl⟩ := hx; refine ⟨rfl, ?_⟩)
        | (obtain ⟨b, rfl, rfl⟩ := hx; refine ⟨rfl, ?_⟩)
        | refine qeqp Try.underlying25 ?_
        | refine qeqb Try.underlying4 ?_
        | refine qneb Try.underlying4 ?_
        | refine Fin.take 0 (And.intro ?_ rfl)
        | (obtain ⟨rfl, rfl⟩ := hx; refine ⟨rfl, ?_⟩)
        | (obtain ⟨b, rfl, rfl⟩ := hx; refine ⟨rfl, ?_⟩)
        | (obtain ⟨b, c, rfl, rfl⟩ := hx; refine ⟨rfl, ?_⟩)
        | refine gsplit.tt ?_
        | refine gsplit.ff ?_
        | refine gsplit.dpos (by omega) ?_
        | refine gsplit.dneg (by omega) ?_
        | refine gsplit.npos (by omega) ?_
        | refine gsplit.nneg (by omega) ?_
        | refine gsplit.dec (fun hc => ?_) (fun hc => ?_)
        | refine gsplit.ndec (fun hc => ?_) (fun hc => ?_)
        | refine BIf.pos rfl ?_
        | refine BIf.neg rfl ?_
        | refine Wr.i64 (by omega) ?_
        | refine Wr.u8 (by omega) ?_
        | refine Wr.u16 (by omega) ?_
        | refine Wr.u32 (by omega) ?_
        | refine YQ.remN (by omega) ?_
        | refine YQ.quoN (by omega) ?_
        | refine YQ.len tabOk rfl ?_
        | refine YQ.idx tabOk rfl (by omega) ?_
        | refine YQ.idxA tabOk rfl (by omega) ?_
        | refine YQ.sliceA tabOk rfl (by omega) (by omega) ?_
        | refine YQ.sliceAll tabOk rfl ?_
        | refine YQ.load1 tabOk rfl 0 rfl rfl ?_
        | refine YQ.load1 tabOk rfl 1 rfl rfl ?_
        | refine YQ.load1 tabOk rfl 2 rfl rfl ?_
        | refine YQ.load1 tabOk rfl 3 rfl rfl ?_
        | refine YQ.load1 tabOk rfl 4 rfl rfl ?_
        | refine YQ.load1 tabOk rfl 5 rfl rfl ?_
        | refine YQ.loadF tabOk rfl 0 rfl rfl ?_
        | refine YQ.loadF tabOk rfl 1 rfl rfl ?_
        | refine YQ.loadF tabOk rfl 2 rfl rfl ?_
        | refine YQ.loadF tabOk rfl 3 rfl rfl ?_
        | refine YQ.loadF tabOk rfl 4 rfl rfl ?_
        | refine YQ.loadF tabOk rfl 5 rfl rfl ?_
        | refine YQ.loadA tabOk rfl 0 rfl rfl rfl ?_
        | refine YQ.loadA tabOk rfl 1 rfl rfl rfl ?_
        | refine YQ.loadA tabOk rfl 2 rfl rfl rfl ?_
        | refine YQ.loadA tabOk rfl 3 rfl rfl rfl ?_
        | refine YQ.loadA tabOk rfl 4 rfl rfl rfl ?_
        | refine YU.store1L tabOk rfl rfl 0 rfl rfl ?_
        | refine YU.store1L tabOk rfl rfl 1 rfl rfl ?_
        | refine YU.store1L tabOk rfl rfl 2 rfl rfl ?_
        | refine YU.store1L tabOk rfl rfl 3 rfl rfl ?_
        | refine YU.store1L tabOk rfl rfl 4 rfl rfl ?_
        | refine YU.storeF tabOk rfl rfl rfl 0 rfl rfl ?_
        | refine YU.storeF tabOk rfl rfl rfl 1 rfl rfl ?_
        | refine YU.storeF tabOk rfl rfl rfl 2 rfl rfl ?_
        | refine YU.storeF tabOk rfl rfl rfl 3 rfl rfl ?_
        | refine YU.storeF tabOk rfl rfl rfl 4 rfl rfl ?_
        | refine YU.storeF tabOk rfl rfl rfl 5 rfl rfl ?_
        | refine YU.storeAL tabOk rfl rfl rfl 0 rfl rfl ?_
        | refine YU.storeAL tabOk rfl rfl rfl 1 rfl rfl ?_
        | refine YU.storeAL tabOk rfl rfl rfl 2 rfl rfl ?_
        | refine YU.storeAL tabOk rfl rfl rfl 3 rfl rfl ?_
        | refine YU.storeAL tabOk rfl rfl rfl 4 rfl rfl ?_
        | refine YQ.build tabOk rfl rfl rfl ?_
        | refine YQ.eqF tabOk rfl rfl rfl ?_
        | refine YQ.neF tabOk rfl rfl rfl ?_
        | refine gsplit.eq (fun hc => ?_) (fun hc => ?_)
        | refine gsplit.neq (fun hc => ?_) (fun hc => ?_)
        | refine Dr.all (by kernel_rfl) ?_
        | intro b)
      all_goals first
        | (exact absurd (by simp; try omega) hc)
        | (show Value.bool _ = Value.bool _; congr 1; simp; done)
        | rfl
    · have ea : fillE at_ x = 1 := if_neg ha
      have el : fillL at_ x S0 = S0 := by rw [fillL, if_neg (fun h => ha h.1)]
      have ef : S0.find? (mt x.v x.a x.p) = none := find_none0 _ _ _
      unfold atP at ha
      refine Con.of_vc tabOk 90 [.tmp 4] Try.func3 rfl Try.ntmps3 Try.results3 rfl (Own.nil' w) ?_
      repeat' ((conv => whnf); first
        | refine YC.con [] [] rfl rfl (fun w _ _ => awake3_con w) (fun x L' hx => ?_)
        | refine YC.con [] [] rfl rfl (fun w _ _ => new_con w) (fun x L' hx => ?_)
        | refine YC.con [] [] rfl rfl (fun w _ _ => lright_con x w) (fun x L' hx => ?_)
        | refine YC.con [] [] rfl rfl (fun w _ _ => lright_ref x w) (fun x L' hx => ?_)
        | refine YC.con [1] _ rfl rfl (fun w _ hw => fill_con _ S0 (by decide) _ _ w hw at_ x) (fun x L' hx => ?_)
        | refine YC.con [1] _ rfl rfl (fun w _ hw => find_con _ S0 (by simp) _ _ x.v x.a x.p w hw) (fun x L' hx => ?_)
        | (simp only [ea, el, ef, decide_eq_true hr, fndV, fndF, fndM] at hx; obtain ⟨rfl, rfl⟩ := hx; refine ⟨rfl, ?_⟩)
        | (obtain ⟨rfl, rfl⟩ := hx; refine ⟨rfl, ?_⟩)
        | (obtain ⟨b, rfl, rfl⟩ := hx; refine ⟨rfl, ?_⟩)
        | refine qeqp Try.underlying25 ?_
        | refine qeqb Try.underlying4 ?_
        | refine qneb Try.underlying4 ?_
        | refine Fin.take 0 (And.intro ?_ rfl)
        | (obtain ⟨rfl, rfl⟩ := hx; refine ⟨rfl, ?_⟩)
        | (obtain ⟨b, rfl, rfl⟩ := hx; refine ⟨rfl, ?_⟩)
        | (obtain ⟨b, c, rfl, rfl⟩ := hx; refine ⟨rfl, ?_⟩)
        | refine gsplit.tt ?_
        | refine gsplit.ff ?_
        | refine gsplit.dpos (by omega) ?_
        | refine gsplit.dneg (by omega) ?_
        | refine gsplit.npos (by omega) ?_
        | refine gsplit.nneg (by omega) ?_
        | refine gsplit.dec (fun hc => ?_) (fun hc => ?_)
        | refine gsplit.ndec (fun hc => ?_) (fun hc => ?_)
        | refine BIf.pos rfl ?_
        | refine BIf.neg rfl ?_
        | refine Wr.i64 (by omega) ?_
        | refine Wr.u8 (by omega) ?_
        | refine Wr.u16 (by omega) ?_
        | refine Wr.u32 (by omega) ?_
        | refine YQ.remN (by omega) ?_
        | refine YQ.quoN (by omega) ?_
        | refine YQ.len tabOk rfl ?_
        | refine YQ.idx tabOk rfl (by omega) ?_
        | refine YQ.idxA tabOk rfl (by omega) ?_
        | refine YQ.sliceA tabOk rfl (by omega) (by omega) ?_
        | refine YQ.sliceAll tabOk rfl ?_
        | refine YQ.load1 tabOk rfl 0 rfl rfl ?_
        | refine YQ.load1 tabOk rfl 1 rfl rfl ?_
        | refine YQ.load1 tabOk rfl 2 rfl rfl ?_
        | refine YQ.load1 tabOk rfl 3 rfl rfl ?_
        | refine YQ.load1 tabOk rfl 4 rfl rfl ?_
        | refine YQ.load1 tabOk rfl 5 rfl rfl ?_
        | refine YQ.loadF tabOk rfl 0 rfl rfl ?_
        | refine YQ.loadF tabOk rfl 1 rfl rfl ?_
        | refine YQ.loadF tabOk rfl 2 rfl rfl ?_
        | refine YQ.loadF tabOk rfl 3 rfl rfl ?_
        | refine YQ.loadF tabOk rfl 4 rfl rfl ?_
        | refine YQ.loadF tabOk rfl 5 rfl rfl ?_
        | refine YQ.loadA tabOk rfl 0 rfl rfl rfl ?_
        | refine YQ.loadA tabOk rfl 1 rfl rfl rfl ?_
        | refine YQ.loadA tabOk rfl 2 rfl rfl rfl ?_
        | refine YQ.loadA tabOk rfl 3 rfl rfl rfl ?_
        | refine YQ.loadA tabOk rfl 4 rfl rfl rfl ?_
        | refine YU.store1L tabOk rfl rfl 0 rfl rfl ?_
        | refine YU.store1L tabOk rfl rfl 1 rfl rfl ?_
        | refine YU.store1L tabOk rfl rfl 2 rfl rfl ?_
        | refine YU.store1L tabOk rfl rfl 3 rfl rfl ?_
        | refine YU.store1L tabOk rfl rfl 4 rfl rfl ?_
        | refine YU.storeF tabOk rfl rfl rfl 0 rfl rfl ?_
        | refine YU.storeF tabOk rfl rfl rfl 1 rfl rfl ?_
        | refine YU.storeF tabOk rfl rfl rfl 2 rfl rfl ?_
        | refine YU.storeF tabOk rfl rfl rfl 3 rfl rfl ?_
        | refine YU.storeF tabOk rfl rfl rfl 4 rfl rfl ?_
        | refine YU.storeF tabOk rfl rfl rfl 5 rfl rfl ?_
        | refine YU.storeAL tabOk rfl rfl rfl 0 rfl rfl ?_
        | refine YU.storeAL tabOk rfl rfl rfl 1 rfl rfl ?_
        | refine YU.storeAL tabOk rfl rfl rfl 2 rfl rfl ?_
        | refine YU.storeAL tabOk rfl rfl rfl 3 rfl rfl ?_
        | refine YU.storeAL tabOk rfl rfl rfl 4 rfl rfl ?_
        | refine YQ.build tabOk rfl rfl rfl ?_
        | refine YQ.eqF tabOk rfl rfl rfl ?_
        | refine YQ.neF tabOk rfl rfl rfl ?_
        | refine gsplit.eq (fun hc => ?_) (fun hc => ?_)
        | refine gsplit.neq (fun hc => ?_) (fun hc => ?_)
        | refine Dr.all (by kernel_rfl) ?_
        | intro b)
      all_goals first
        | (exact absurd (by simp; try omega) hc)
        | (show Value.bool _ = Value.bool _; congr 1; simp; done)
        | rfl
  · have el : fillL at_ x S0 = S0 := by rw [fillL, if_neg (fun h => hr h.2)]
    have ef : S0.find? (mt x.v x.a x.p) = none := find_none0 _ _ _
    by_cases ha : atP at_
    · have ea : fillE at_ x = 30 := (if_pos ha).trans (if_neg hr)
      unfold atP at ha
      refine Con.of_vc tabOk 90 [.tmp 4] Try.func3 rfl Try.ntmps3 Try.results3 rfl (Own.nil' w) ?_
      repeat' ((conv => whnf); first
        | refine YC.con [] [] rfl rfl (fun w _ _ => awake3_con w) (fun x L' hx => ?_)
        | refine YC.con [] [] rfl rfl (fun w _ _ => new_con w) (fun x L' hx => ?_)
        | refine YC.con [] [] rfl rfl (fun w _ _ => lright_con x w) (fun x L' hx => ?_)
        | refine YC.con [] [] rfl rfl (fun w _ _ => lright_ref x w) (fun x L' hx => ?_)
        | refine YC.con [1] _ rfl rfl (fun w _ hw => fill_con _ S0 (by decide) _ _ w hw at_ x) (fun x L' hx => ?_)
        | refine YC.con [1] _ rfl rfl (fun w _ hw => find_con _ S0 (by simp) _ _ x.v x.a x.p w hw) (fun x L' hx => ?_)
        | (simp only [ea, el, ef, decide_eq_false hr, fndV, fndF, fndM] at hx; obtain ⟨rfl, rfl⟩ := hx; refine ⟨rfl, ?_⟩)
        | (obtain ⟨rfl, rfl⟩ := hx; refine ⟨rfl, ?_⟩)
        | (obtain ⟨b, rfl, rfl⟩ := hx; refine ⟨rfl, ?_⟩)
        | refine qeqp Try.underlying25 ?_
        | refine qeqb Try.underlying4 ?_
        | refine qneb Try.underlying4 ?_
        | refine Fin.take 0 (And.intro ?_ rfl)
        | (obtain ⟨rfl, rfl⟩ := hx; refine ⟨rfl, ?_⟩)
        | (obtain ⟨b, rfl, rfl⟩ := hx; refine ⟨rfl, ?_⟩)
        | (obtain ⟨b, c, rfl, rfl⟩ := hx; refine ⟨rfl, ?_⟩)
        | refine gsplit.tt ?_
        | refine gsplit.ff ?_
        | refine gsplit.dpos (by omega) ?_
        | refine gsplit.dneg (by omega) ?_
        | refine gsplit.npos (by omega) ?_
        | refine gsplit.nneg (by omega) ?_
        | refine gsplit.dec (fun hc => ?_) (fun hc => ?_)
        | refine gsplit.ndec (fun hc => ?_) (fun hc => ?_)
        | refine BIf.pos rfl ?_
        | refine BIf.neg rfl ?_
        | refine Wr.i64 (by omega) ?_
        | refine Wr.u8 (by omega) ?_
        | refine Wr.u16 (by omega) ?_
        | refine Wr.u32 (by omega) ?_
        | refine YQ.remN (by omega) ?_
        | refine YQ.quoN (by omega) ?_
        | refine YQ.len tabOk rfl ?_
        | refine YQ.idx tabOk rfl (by omega) ?_
        | refine YQ.idxA tabOk rfl (by omega) ?_
        | refine YQ.sliceA tabOk rfl (by omega) (by omega) ?_
        | refine YQ.sliceAll tabOk rfl ?_
        | refine YQ.load1 tabOk rfl 0 rfl rfl ?_
        | refine YQ.load1 tabOk rfl 1 rfl rfl ?_
        | refine YQ.load1 tabOk rfl 2 rfl rfl ?_
        | refine YQ.load1 tabOk rfl 3 rfl rfl ?_
        | refine YQ.load1 tabOk rfl 4 rfl rfl ?_
        | refine YQ.load1 tabOk rfl 5 rfl rfl ?_
        | refine YQ.loadF tabOk rfl 0 rfl rfl ?_
        | refine YQ.loadF tabOk rfl 1 rfl rfl ?_
        | refine YQ.loadF tabOk rfl 2 rfl rfl ?_
        | refine YQ.loadF tabOk rfl 3 rfl rfl ?_
        | refine YQ.loadF tabOk rfl 4 rfl rfl ?_
        | refine YQ.loadF tabOk rfl 5 rfl rfl ?_
        | refine YQ.loadA tabOk rfl 0 rfl rfl rfl ?_
        | refine YQ.loadA tabOk rfl 1 rfl rfl rfl ?_
        | refine YQ.loadA tabOk rfl 2 rfl rfl rfl ?_
        | refine YQ.loadA tabOk rfl 3 rfl rfl rfl ?_
        | refine YQ.loadA tabOk rfl 4 rfl rfl rfl ?_
        | refine YU.store1L tabOk rfl rfl 0 rfl rfl ?_
        | refine YU.store1L tabOk rfl rfl 1 rfl rfl ?_
        | refine YU.store1L tabOk rfl rfl 2 rfl rfl ?_
        | refine YU.store1L tabOk rfl rfl 3 rfl rfl ?_
        | refine YU.store1L tabOk rfl rfl 4 rfl rfl ?_
        | refine YU.storeF tabOk rfl rfl rfl 0 rfl rfl ?_
        | refine YU.storeF tabOk rfl rfl rfl 1 rfl rfl ?_
        | refine YU.storeF tabOk rfl rfl rfl 2 rfl rfl ?_
        | refine YU.storeF tabOk rfl rfl rfl 3 rfl rfl ?_
        | refine YU.storeF tabOk rfl rfl rfl 4 rfl rfl ?_
        | refine YU.storeF tabOk rfl rfl rfl 5 rfl rfl ?_
        | refine YU.storeAL tabOk rfl rfl rfl 0 rfl rfl ?_
        | refine YU.storeAL tabOk rfl rfl rfl 1 rfl rfl ?_
        | refine YU.storeAL tabOk rfl rfl rfl 2 rfl rfl ?_
        | refine YU.storeAL tabOk rfl rfl rfl 3 rfl rfl ?_
        | refine YU.storeAL tabOk rfl rfl rfl 4 rfl rfl ?_
        | refine YQ.build tabOk rfl rfl rfl ?_
        | refine YQ.eqF tabOk rfl rfl rfl ?_
        | refine YQ.neF tabOk rfl rfl rfl ?_
        | refine gsplit.eq (fun hc => ?_) (fun hc => ?_)
        | refine gsplit.neq (fun hc => ?_) (fun hc => ?_)
        | refine Dr.all (by kernel_rfl) ?_
        | intro b)
      all_goals first
        | (exact absurd (by simp; try omega) hc)
        | (show Value.bool _ = Value.bool _; congr 1; simp; done)
        | rfl
    · have ea : fillE at_ x = 1 := if_neg ha
      unfold atP at ha
      refine Con.of_vc tabOk 90 [.tmp 4] Try.func3 rfl Try.ntmps3 Try.results3 rfl (Own.nil' w) ?_
      repeat' ((conv => whnf); first
        | refine YC.con [] [] rfl rfl (fun w _ _ => awake3_con w) (fun x L' hx => ?_)
        | refine YC.con [] [] rfl rfl (fun w _ _ => new_con w) (fun x L' hx => ?_)
        | refine YC.con [] [] rfl rfl (fun w _ _ => lright_con x w) (fun x L' hx => ?_)
        | refine YC.con [] [] rfl rfl (fun w _ _ => lright_ref x w) (fun x L' hx => ?_)
        | refine YC.con [1] _ rfl rfl (fun w _ hw => fill_con _ S0 (by decide) _ _ w hw at_ x) (fun x L' hx => ?_)
        | refine YC.con [1] _ rfl rfl (fun w _ hw => find_con _ S0 (by simp) _ _ x.v x.a x.p w hw) (fun x L' hx => ?_)
        | (simp only [ea, el, ef, decide_eq_false hr, fndV, fndF, fndM] at hx; obtain ⟨rfl, rfl⟩ := hx; refine ⟨rfl, ?_⟩)
        | (obtain ⟨rfl, rfl⟩ := hx; refine ⟨rfl, ?_⟩)
        | (obtain ⟨b, rfl, rfl⟩ := hx; refine ⟨rfl, ?_⟩)
        | refine qeqp Try.underlying25 ?_
        | refine qeqb Try.underlying4 ?_
        | refine qneb Try.underlying4 ?_
        | refine Fin.take 0 (And.intro ?_ rfl)
        | (obtain ⟨rfl, rfl⟩ := hx; refine ⟨rfl, ?_⟩)
        | (obtain ⟨b, rfl, rfl⟩ := hx; refine ⟨rfl, ?_⟩)
        | (obtain ⟨b, c, rfl, rfl⟩ := hx; refine ⟨rfl, ?_⟩)
        | refine gsplit.tt ?_
        | refine gsplit.ff ?_
        | refine gsplit.dpos (by omega) ?_
        | refine gsplit.dneg (by omega) ?_
        | refine gsplit.npos (by omega) ?_
        | refine gsplit.nneg (by omega) ?_
        | refine gsplit.dec (fun hc => ?_) (fun hc => ?_)
        | refine gsplit.ndec (fun hc => ?_) (fun hc => ?_)
        | refine BIf.pos rfl ?_
        | refine BIf.neg rfl ?_
        | refine Wr.i64 (by omega) ?_
        | refine Wr.u8 (by omega) ?_
        | refine Wr.u16 (by omega) ?_
        | refine Wr.u32 (by omega) ?_
        | refine YQ.remN (by omega) ?_
        | refine YQ.quoN (by omega) ?_
        | refine YQ.len tabOk rfl ?_
        | refine YQ.idx tabOk rfl (by omega) ?_
        | refine YQ.idxA tabOk rfl (by omega) ?_
        | refine YQ.sliceA tabOk rfl (by omega) (by omega) ?_
        | refine YQ.sliceAll tabOk rfl ?_
        | refine YQ.load1 tabOk rfl 0 rfl rfl ?_
        | refine YQ.load1 tabOk rfl 1 rfl rfl ?_
        | refine YQ.load1 tabOk rfl 2 rfl rfl ?_
        | refine YQ.load1 tabOk rfl 3 rfl rfl ?_
        | refine YQ.load1 tabOk rfl 4 rfl rfl ?_
        | refine YQ.load1 tabOk rfl 5 rfl rfl ?_
        | refine YQ.loadF tabOk rfl 0 rfl rfl ?_
        | refine YQ.loadF tabOk rfl 1 rfl rfl ?_
        | refine YQ.loadF tabOk rfl 2 rfl rfl ?_
        | refine YQ.loadF tabOk rfl 3 rfl rfl ?_
        | refine YQ.loadF tabOk rfl 4 rfl rfl ?_
        | refine YQ.loadF tabOk rfl 5 rfl rfl ?_
        | refine YQ.loadA tabOk rfl 0 rfl rfl rfl ?_
        | refine YQ.loadA tabOk rfl 1 rfl rfl rfl ?_
        | refine YQ.loadA tabOk rfl 2 rfl rfl rfl ?_
        | refine YQ.loadA tabOk rfl 3 rfl rfl rfl ?_
        | refine YQ.loadA tabOk rfl 4 rfl rfl rfl ?_
        | refine YU.store1L tabOk rfl rfl 0 rfl rfl ?_
        | refine YU.store1L tabOk rfl rfl 1 rfl rfl ?_
        | refine YU.store1L tabOk rfl rfl 2 rfl rfl ?_
        | refine YU.store1L tabOk rfl rfl 3 rfl rfl ?_
        | refine YU.store1L tabOk rfl rfl 4 rfl rfl ?_
        | refine YU.storeF tabOk rfl rfl rfl 0 rfl rfl ?_
        | refine YU.storeF tabOk rfl rfl rfl 1 rfl rfl ?_
        | refine YU.storeF tabOk rfl rfl rfl 2 rfl rfl ?_
        | refine YU.storeF tabOk rfl rfl rfl 3 rfl rfl ?_
        | refine YU.storeF tabOk rfl rfl rfl 4 rfl rfl ?_
        | refine YU.storeF tabOk rfl rfl rfl 5 rfl rfl ?_
        | refine YU.storeAL tabOk rfl rfl rfl 0 rfl rfl ?_
        | refine YU.storeAL tabOk rfl rfl rfl 1 rfl rfl ?_
        | refine YU.storeAL tabOk rfl rfl rfl 2 rfl rfl ?_
        | refine YU.storeAL tabOk rfl rfl rfl 3 rfl rfl ?_
        | refine YU.storeAL tabOk rfl rfl rfl 4 rfl rfl ?_
        | refine YQ.build tabOk rfl rfl rfl ?_
        | refine YQ.eqF tabOk rfl rfl rfl ?_
        | refine YQ.neF tabOk rfl rfl rfl ?_
        | refine gsplit.eq (fun hc => ?_) (fun hc => ?_)
        | refine gsplit.neq (fun hc => ?_) (fun hc => ?_)
        | refine Dr.all (by kernel_rfl) ?_
        | intro b)
      all_goals first
        | (exact absurd (by simp; try omega) hc)
        | (show Value.bool _ = Value.bool _; congr 1; simp; done)
        | rfl
theorem rd_line {W : World} {n : Nat} {cs : List Value} (h : Rd Try.prog W n 23 cs) : ∃ l : Ln, cs = lnV l ∧ (Lit.int .i64 l.v).wf = true ∧ (Lit.int .i64 l.a).wf = true ∧ (Lit.int .i64 l.p).wf = true ∧ (Lit.int .i64 l.f).wf = true ∧ (Lit.int .i64 l.r).wf = true := by
  obtain ⟨hl, m, hf⟩ := rd_struct h Try.underlying23
  have hc : Try.prog.cellsOf 23 = 5 := by kernel_rfl
  have hi : Try.prog.cellsOf 3 = 1 := by kernel_rfl
  rw [hc] at hl
  obtain ⟨c0, c1, c2, c3, c4, rfl⟩ : ∃ a b c d e, cs = [a, b, c, d, e] := by
    match cs, hl with
    | [a, b, c, d, e], _ => exact ⟨a, b, c, d, e, rfl⟩
  obtain ⟨v, h0, w0⟩ := rd_int (hf 0 _ rfl) Try.underlying3
  obtain ⟨a, h1, w1⟩ := rd_int (hf 1 _ rfl) Try.underlying3
  obtain ⟨p, h2, w2⟩ := rd_int (hf 2 _ rfl) Try.underlying3
  obtain ⟨f, h3, w3⟩ := rd_int (hf 3 _ rfl) Try.underlying3
  obtain ⟨r, h4, w4⟩ := rd_int (hf 4 _ rfl) Try.underlying3
  simp [hi] at h0 h1 h2 h3 h4
  exact ⟨⟨v, a, p, f, r⟩, by rw [h0, h1, h2, h3, h4]; rfl, w0, w1, w2, w3, w4⟩
theorem tlbLines_walk (a0 : Array Value) (n0 : Nat) {W : World} (rd0 : Rd Try.prog W n0 23 (Value.agg a0).cells.toList) (at_ : Int) (w1 : (Lit.int .i64 at_).wf = true) (w : World) :
    Calls Try.prog 3 #[.agg a0, .int .i64 at_] w fun e w' => e = .returned (.bool true) ∧ RowKit.Below w.heap.size w w' := by
  obtain ⟨l, h, _⟩ := rd_line rd0
  have : a0 = (lnV l).toArray := by apply Array.ext'; exact h
  subst this
  exact (tlbLines_con l at_ w).law
end Go.Proofs.Ytmpjdoodpkhmpaa
