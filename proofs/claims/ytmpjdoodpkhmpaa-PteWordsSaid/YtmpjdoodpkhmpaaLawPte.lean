/- 'PteWords', 'PteBack', 'PteAll' of chapter 2 answer true. Conditions: none beside the rows' own. -/
import Derived.Test.YtmpjdoodpkhmpaaRows
import Derived.Test.YtmpjdoodpkhmpaaAwake2
import Derived.Test.YtmpjdoodpkhmpaaFrame
set_option linter.unusedVariables false
set_option linter.unusedSimpArgs false
set_option maxRecDepth 10000
set_option maxHeartbeats 4000000
namespace Go.Proofs.Ytmpjdoodpkhmpaa
open Vc
def encW (v l : Bool) (r f : Int) : Int := if rightP v l r f then encI v l r f else 0
def encE (v l : Bool) (r f : Int) : Int := if rightP v l r f then 0 else 20
theorem encV_eq (v l : Bool) (r f : Int) : encV v l r f = .tuple #[.int .u16 (encW v l r f), .int .i64 (encE v l r f)] := by
  unfold encV encW encE
  split <;> rfl
def dcV (n : Int) : Bool := decide (wordP n) && dv n
def dcL (n : Int) : Bool := decide (wordP n) && dl n
def dcR (n : Int) : Int := if wordP n then n / 4 % 8 else 0
def dcF (n : Int) : Int := if wordP n then n / 64 else 0
def dcE (n : Int) : Int := if wordP n then 0 else 20
theorem decV_eq (n : Int) : decV n = .tuple #[ent (dcV n) (dcL n) (dcR n) (dcF n), .int .i64 (dcE n)] := by
  unfold decV dcV dcL dcR dcF dcE
  by_cases h : wordP n <;> simp [h]
theorem pteWords_con (v l : Bool) (r f n page level : Int) (hn : 0 ≤ n ∧ n ≤ 65535) (w : World) :
    Con Try.prog 4 [ent v l r f, .int .u16 n, .int .i64 page, .int .i64 level] w [] (fun x L' => x = .bool true ∧ L' = []) := by
  refine Con.of_vc tabOk 84 [.tmp 8] Try.func4 rfl Try.ntmps4 Try.results4 rfl (Own.nil w) ?_
  repeat' ((conv => whnf); first
    | refine YC.con [] [] rfl rfl (fun w _ _ => awake2_con w) (fun x L' hx => ?_)
    | refine YC.con [] [] rfl rfl (fun w _ _ => right_con v l r f w) (fun x L' hx => ?_)
    | refine YC.con [] [] rfl rfl (fun w _ _ => right_ref v l r f w) (fun x L' hx => ?_)
    | refine YC.con [] [] rfl rfl (fun w _ _ => enc_con v l r f w) (fun x L' hx => ?_)
    | refine YC.con [] [] rfl rfl (fun w _ _ => enc_ref v l r f w) (fun x L' hx => ?_)
    | refine YC.con [] [] rfl rfl (fun w _ _ => dec_con n w hn) (fun x L' hx => ?_)
    | refine YC.con [] [] rfl rfl (fun w _ _ => dec_ref n w hn) (fun x L' hx => ?_)
    | refine YC.con [] [] rfl rfl (fun w _ _ => index_con page level w) (fun x L' hx => ?_)
    | refine YC.con [] [] rfl rfl (fun w _ _ => index_ref page level w) (fun x L' hx => ?_)
    | (rw [encV_eq] at hx; obtain ⟨rfl, rfl⟩ := hx; refine ⟨rfl, ?_⟩)
    | (rw [decV_eq] at hx; obtain ⟨rfl, rfl⟩ := hx; refine ⟨rfl, ?_⟩)
    | (obtain ⟨rfl, rfl⟩ := hx; refine ⟨rfl, ?_⟩)
    | refine qeqb Try.underlying4 ?_
    | refine gsplit.pos (beq_self_eq_true _) ?_
    | refine gsplit.dpos rfl ?_
    | refine gsplit.pos (eqB_true.2 ⟨rfl, rfl, rfl, rfl, trivial⟩) ?_
    | refine Fin.take 0 (And.intro ?_ rfl)
    | refine gsplit.dpos (by omega) ?_
    | refine gsplit.dneg (by omega) ?_
    | refine gsplit.npos (by omega) ?_
    | refine gsplit.nneg (by omega) ?_
    | refine gsplit.dec (fun hc => ?_) (fun hc => ?_)
    | refine gsplit.ndec (fun hc => ?_) (fun hc => ?_)
    | refine BIf.pos rfl ?_
    | refine BIf.neg rfl ?_
    | refine Wr.i64 (by omega) ?_
    | refine Wr.u8 (by omega) ?_
    | refine Wr.u16 (by omega) ?_
    | refine Wr.u32 (by omega) ?_
    | refine YQ.remN (by omega) ?_
    | refine YQ.quoN (by omega) ?_
    | refine YQ.len tabOk rfl ?_
    | refine YQ.idx tabOk rfl (by omega) ?_
    | refine YQ.idxA tabOk rfl (by omega) ?_
    | refine YQ.sliceA tabOk rfl (by omega) (by omega) ?_
    | refine YQ.sliceAll tabOk rfl ?_
    | refine YQ.load1 tabOk rfl 0 rfl rfl ?_
    | refine YQ.load1 tabOk rfl 1 rfl rfl ?_
    | refine YQ.load1 tabOk rfl 2 rfl rfl ?_
    | refine YQ.load1 tabOk rfl 3 rfl rfl ?_
    | refine YQ.load1 tabOk rfl 4 rfl rfl ?_
    | refine YQ.load1 tabOk rfl 5 rfl rfl ?_
    | refine YQ.loadA tabOk rfl 0 rfl rfl rfl ?_
    | refine YQ.loadA tabOk rfl 1 rfl rfl rfl ?_
    | refine YQ.loadA tabOk rfl 2 rfl rfl rfl ?_
    | refine YQ.loadA tabOk rfl 3 rfl rfl rfl ?_
    | refine YQ.loadA tabOk rfl 4 rfl rfl rfl ?_
    | refine YU.store1L tabOk rfl rfl 0 rfl rfl ?_
    | refine YU.store1L tabOk rfl rfl 1 rfl rfl ?_
    | refine YU.store1L tabOk rfl rfl 2 rfl rfl ?_
    | refine YU.store1L tabOk rfl rfl 3 rfl rfl ?_
    | refine YU.store1L tabOk rfl rfl 4 rfl rfl ?_
    | refine YU.storeAL tabOk rfl rfl rfl 0 rfl rfl ?_
    | refine YU.storeAL tabOk rfl rfl rfl 1 rfl rfl ?_
    | refine YU.storeAL tabOk rfl rfl rfl 2 rfl rfl ?_
    | refine YU.storeAL tabOk rfl rfl rfl 3 rfl rfl ?_
    | refine YU.storeAL tabOk rfl rfl rfl 4 rfl rfl ?_
    | refine YQ.build tabOk rfl rfl rfl ?_
    | refine YQ.eqF tabOk rfl rfl rfl ?_
    | refine YQ.neF tabOk rfl rfl rfl ?_
    | refine gsplit.eq (fun hc => ?_) (fun hc => ?_)
    | refine gsplit.neq (fun hc => ?_) (fun hc => ?_)
    | intro b)
  all_goals
    show Value.bool _ = Value.bool _
    congr 1
    exact decide_eq_true rfl
theorem dec_enc {v l : Bool} {r f : Int} (h : rightP v l r f) : decV (encI v l r f) = .tuple #[ent v l r f, .int .i64 0] := by
  have hb := right_bounds h
  have e1 : encI v l r f / 32 % 2 = 0 := by unfold encI; split <;> split <;> omega
  have e2 : dv (encI v l r f) = v := by unfold dv encI; cases v <;> cases l <;> simp <;> omega
  have e3 : dl (encI v l r f) = l := by unfold dl encI; cases v <;> cases l <;> simp <;> omega
  have e4 : encI v l r f / 4 % 8 = r := by unfold encI; split <;> split <;> omega
  have e5 : encI v l r f / 64 = f := by unfold encI; split <;> split <;> omega
  have hw : wordP (encI v l r f) := ⟨e1, by rw [e2, e3, e4, e5]; exact h⟩
  unfold decV
  rw [if_pos hw, e2, e3, e4, e5]
theorem encI_range {v l : Bool} {r f : Int} (h : rightP v l r f) : 0 ≤ encI v l r f ∧ encI v l r f ≤ 65535 := by
  have hb := right_bounds h
  unfold encI
  split <;> split <;> omega
theorem enc_inj {v l : Bool} {r f : Int} (h : rightP v l r f) {v' l' : Bool} {r' f' : Int} (h' : rightP v' l' r' f') : encI v l r f = encI v' l' r' f' ↔ v = v' ∧ l = l' ∧ r = r' ∧ f = f' := by
  refine ⟨fun he => ?_, fun ⟨a, b, c, d⟩ => by rw [a, b, c, d]⟩
  have h1 := dec_enc h
  rw [he, dec_enc h'] at h1
  simp at h1
  exact ⟨h1.1.symm, h1.2.1.symm, h1.2.2.1.symm, h1.2.2.2.symm⟩
theorem pteBack_con (v l : Bool) (r f : Int) (v' l' : Bool) (r' f' : Int) (w : World) :
    Con Try.prog 5 [ent v l r f, ent v' l' r' f'] w [] (fun x L' => x = .bool true ∧ L' = []) := by
  by_cases h : rightP v l r f
  · have hE : encV v l r f = .tuple #[.int .u16 (encI v l r f), .int .i64 0] := by simp [encV, h]
    have hD := dec_enc h
    by_cases h' : rightP v' l' r' f'
    · have hE' : encV v' l' r' f' = .tuple #[.int .u16 (encI v' l' r' f'), .int .i64 0] := by simp [encV, h']
      refine Con.of_vc tabOk 65 [.tmp 4] Try.func5 rfl Try.ntmps5 Try.results5 rfl (Own.nil w) ?_
      repeat' ((conv => whnf); first
        | refine YC.con [] [] rfl rfl (fun w _ _ => awake2_con w) (fun x L' hx => ?_)
        | refine YC.con [] [] rfl rfl (fun w _ _ => right_con v l r f w) (fun x L' hx => ?_)
        | refine YC.con [] [] rfl rfl (fun w _ _ => enc_con _ _ _ _ w) (fun x L' hx => ?_)
        | refine YC.con [] [] rfl rfl (fun w _ _ => dec_con _ w (encI_range h)) (fun x L' hx => ?_)
        | (rw [hE] at hx; obtain ⟨rfl, rfl⟩ := hx; refine ⟨rfl, ?_⟩)
        | (rw [hE'] at hx; obtain ⟨rfl, rfl⟩ := hx; refine ⟨rfl, ?_⟩)
        | (rw [hD] at hx; obtain ⟨rfl, rfl⟩ := hx; refine ⟨rfl, ?_⟩)
        | (rw [decide_eq_true h] at hx; obtain ⟨rfl, rfl⟩ := hx; refine ⟨rfl, ?_⟩)
        | (obtain ⟨rfl, rfl⟩ := hx; refine ⟨rfl, ?_⟩)
        | refine qeqb Try.underlying4 ?_
        | refine qneb Try.underlying4 ?_
        | refine gsplit.neg rfl ?_
        | refine gsplit.pos (eqB_true.2 ⟨rfl, rfl, rfl, rfl, trivial⟩) ?_
        | refine Fin.take 0 (And.intro ?_ rfl)
        | refine gsplit.dpos (by omega) ?_
        | refine gsplit.dneg (by omega) ?_
        | refine gsplit.npos (by omega) ?_
        | refine gsplit.nneg (by omega) ?_
        | refine gsplit.dec (fun hc => ?_) (fun hc => ?_)
        | refine gsplit.ndec (fun hc => ?_) (fun hc => ?_)
        | refine BIf.pos rfl ?_
        | refine BIf.neg rfl ?_
        | refine Wr.i64 (by omega) ?_
        | refine Wr.u8 (by omega) ?_
        | refine Wr.u16 (by omega) ?_
        | refine Wr.u32 (by omega) ?_
        | refine YQ.remN (by omega) ?_
        | refine YQ.quoN (by omega) ?_
        | refine YQ.len tabOk rfl ?_
        | refine YQ.idx tabOk rfl (by omega) ?_
        | refine YQ.idxA tabOk rfl (by omega) ?_
        | refine YQ.sliceA tabOk rfl (by omega) (by omega) ?_
        | refine YQ.sliceAll tabOk rfl ?_
        | refine YQ.load1 tabOk rfl 0 rfl rfl ?_
        | refine YQ.load1 tabOk rfl 1 rfl rfl ?_
        | refine YQ.load1 tabOk rfl 2 rfl rfl ?_
        | refine YQ.load1 tabOk rfl 3 rfl rfl ?_
        | refine YQ.load1 tabOk rfl 4 rfl rfl ?_
        | refine YQ.load1 tabOk rfl 5 rfl rfl ?_
        | refine YQ.loadA tabOk rfl 0 rfl rfl rfl ?_
        | refine YQ.loadA tabOk rfl 1 rfl rfl rfl ?_
        | refine YQ.loadA tabOk rfl 2 rfl rfl rfl ?_
        | refine YQ.loadA tabOk rfl 3 rfl rfl rfl ?_
        | refine YQ.loadA tabOk rfl 4 rfl rfl rfl ?_
        | refine YU.store1L tabOk rfl rfl 0 rfl rfl ?_
        | refine YU.store1L tabOk rfl rfl 1 rfl rfl ?_
        | refine YU.store1L tabOk rfl rfl 2 rfl rfl ?_
        | refine YU.store1L tabOk rfl rfl 3 rfl rfl ?_
        | refine YU.store1L tabOk rfl rfl 4 rfl rfl ?_
        | refine YU.storeAL tabOk rfl rfl rfl 0 rfl rfl ?_
        | refine YU.storeAL tabOk rfl rfl rfl 1 rfl rfl ?_
        | refine YU.storeAL tabOk rfl rfl rfl 2 rfl rfl ?_
        | refine YU.storeAL tabOk rfl rfl rfl 3 rfl rfl ?_
        | refine YU.storeAL tabOk rfl rfl rfl 4 rfl rfl ?_
        | refine YQ.build tabOk rfl rfl rfl ?_
        | refine YQ.eqF tabOk rfl rfl rfl ?_
        | refine YQ.neF tabOk rfl rfl rfl ?_
        | refine gsplit.eq (fun hc => ?_) (fun hc => ?_)
        | refine gsplit.neq (fun hc => ?_) (fun hc => ?_)
        | intro b)
      all_goals
        show Value.bool _ = Value.bool _
        congr 1
        rw [beq_iff_eq, Bool.eq_iff_iff, eqB_true, decide_eq_true_eq, enc_inj h h']
        simp [EqP, Value.cells]
    · have hE' : encV v' l' r' f' = .tuple #[.int .u16 0, .int .i64 20] := by simp [encV, h']
      refine Con.of_vc tabOk 65 [.tmp 4] Try.func5 rfl Try.ntmps5 Try.results5 rfl (Own.nil w) ?_
      repeat' ((conv => whnf); first
        | refine YC.con [] [] rfl rfl (fun w _ _ => awake2_con w) (fun x L' hx => ?_)
        | refine YC.con [] [] rfl rfl (fun w _ _ => right_con v l r f w) (fun x L' hx => ?_)
        | refine YC.con [] [] rfl rfl (fun w _ _ => enc_con _ _ _ _ w) (fun x L' hx => ?_)
        | refine YC.con [] [] rfl rfl (fun w _ _ => dec_con _ w (encI_range h)) (fun x L' hx => ?_)
        | (rw [hE] at hx; obtain ⟨rfl, rfl⟩ := hx; refine ⟨rfl, ?_⟩)
        | (rw [hE'] at hx; obtain ⟨rfl, rfl⟩ := hx; refine ⟨rfl, ?_⟩)
        | (rw [hD] at hx; obtain ⟨rfl, rfl⟩ := hx; refine ⟨rfl, ?_⟩)
        | (rw [decide_eq_true h] at hx; obtain ⟨rfl, rfl⟩ := hx; refine ⟨rfl, ?_⟩)
        | (obtain ⟨rfl, rfl⟩ := hx; refine ⟨rfl, ?_⟩)
        | refine qeqb Try.underlying4 ?_
        | refine qneb Try.underlying4 ?_
        | refine gsplit.neg rfl ?_
        | refine gsplit.pos (eqB_true.2 ⟨rfl, rfl, rfl, rfl, trivial⟩) ?_
        | refine Fin.take 0 (And.intro ?_ rfl)
        | refine gsplit.dpos (by omega) ?_
        | refine gsplit.dneg (by omega) ?_
        | refine gsplit.npos (by omega) ?_
        | refine gsplit.nneg (by omega) ?_
        | refine gsplit.dec (fun hc => ?_) (fun hc => ?_)
        | refine gsplit.ndec (fun hc => ?_) (fun hc => ?_)
        | refine BIf.pos rfl ?_
        | refine BIf.neg rfl ?_
        | refine Wr.i64 (by omega) ?_
        | refine Wr.u8 (by omega) ?_
        | refine Wr.u16 (by omega) ?_
        | refine Wr.u32 (by omega) ?_
        | refine YQ.remN (by omega) ?_
        | refine YQ.quoN (by omega) ?_
        | refine YQ.len tabOk rfl ?_
        | refine YQ.idx tabOk rfl (by omega) ?_
        | refine YQ.idxA tabOk rfl (by omega) ?_
        | refine YQ.sliceA tabOk rfl (by omega) (by omega) ?_
        | refine YQ.sliceAll tabOk rfl ?_
        | refine YQ.load1 tabOk rfl 0 rfl rfl ?_
        | refine YQ.load1 tabOk rfl 1 rfl rfl ?_
        | refine YQ.load1 tabOk rfl 2 rfl rfl ?_
        | refine YQ.load1 tabOk rfl 3 rfl rfl ?_
        | refine YQ.load1 tabOk rfl 4 rfl rfl ?_
        | refine YQ.load1 tabOk rfl 5 rfl rfl ?_
        | refine YQ.loadA tabOk rfl 0 rfl rfl rfl ?_
        | refine YQ.loadA tabOk rfl 1 rfl rfl rfl ?_
        | refine YQ.loadA tabOk rfl 2 rfl rfl rfl ?_
        | refine YQ.loadA tabOk rfl 3 rfl rfl rfl ?_
        | refine YQ.loadA tabOk rfl 4 rfl rfl rfl ?_
        | refine YU.store1L tabOk rfl rfl 0 rfl rfl ?_
        | refine YU.store1L tabOk rfl rfl 1 rfl rfl ?_
        | refine YU.store1L tabOk rfl rfl 2 rfl rfl ?_
        | refine YU.store1L tabOk rfl rfl 3 rfl rfl ?_
        | refine YU.store1L tabOk rfl rfl 4 rfl rfl ?_
        | refine YU.storeAL tabOk rfl rfl rfl 0 rfl rfl ?_
        | refine YU.storeAL tabOk rfl rfl rfl 1 rfl rfl ?_
        | refine YU.storeAL tabOk rfl rfl rfl 2 rfl rfl ?_
        | refine YU.storeAL tabOk rfl rfl rfl 3 rfl rfl ?_
        | refine YU.storeAL tabOk rfl rfl rfl 4 rfl rfl ?_
        | refine YQ.build tabOk rfl rfl rfl ?_
        | refine YQ.eqF tabOk rfl rfl rfl ?_
        | refine YQ.neF tabOk rfl rfl rfl ?_
        | refine gsplit.eq (fun hc => ?_) (fun hc => ?_)
        | refine gsplit.neq (fun hc => ?_) (fun hc => ?_)
        | intro b)
      all_goals rfl
  · have hE : encV v l r f = .tuple #[.int .u16 0, .int .i64 20] := by simp [encV, h]
    by_cases h' : rightP v' l' r' f'
    · have hE' : encV v' l' r' f' = .tuple #[.int .u16 (encI v' l' r' f'), .int .i64 0] := by simp [encV, h']
      refine Con.of_vc tabOk 65 [.tmp 4] Try.func5 rfl Try.ntmps5 Try.results5 rfl (Own.nil w) ?_
      repeat' ((conv => whnf); first
        | refine YC.con [] [] rfl rfl (fun w _ _ => awake2_con w) (fun x L' hx => ?_)
        | refine YC.con [] [] rfl rfl (fun w _ _ => right_con v l r f w) (fun x L' hx => ?_)
        | refine YC.con [] [] rfl rfl (fun w _ _ => enc_con _ _ _ _ w) (fun x L' hx => ?_)
        | (rw [hE] at hx; obtain ⟨rfl, rfl⟩ := hx; refine ⟨rfl, ?_⟩)
        | (rw [hE'] at hx; obtain ⟨rfl, rfl⟩ := hx; refine ⟨rfl, ?_⟩)
        | (rw [decide_eq_false h] at hx; obtain ⟨rfl, rfl⟩ := hx; refine ⟨rfl, ?_⟩)
        | (obtain ⟨rfl, rfl⟩ := hx; refine ⟨rfl, ?_⟩)
        | refine qneb Try.underlying4 ?_
        | refine gsplit.neg rfl ?_
        | refine Fin.take 0 (And.intro ?_ rfl)
        | refine gsplit.dpos (by omega) ?_
        | refine gsplit.dneg (by omega) ?_
        | refine gsplit.npos (by omega) ?_
        | refine gsplit.nneg (by omega) ?_
        | refine gsplit.dec (fun hc => ?_) (fun hc => ?_)
        | refine gsplit.ndec (fun hc => ?_) (fun hc => ?_)
        | refine BIf.pos rfl ?_
        | refine BIf.neg rfl ?_
        | refine Wr.i64 (by omega) ?_
        | refine Wr.u8 (by omega) ?_
        | refine Wr.u16 (by omega) ?_
        | refine Wr.u32 (by omega) ?_
        | refine YQ.remN (by omega) ?_
        | refine YQ.quoN (by omega) ?_
        | refine YQ.len tabOk rfl ?_
        | refine YQ.idx tabOk rfl (by omega) ?_
        | refine YQ.idxA tabOk rfl (by omega) ?_
        | refine YQ.sliceA tabOk rfl (by omega) (by omega) ?_
        | refine YQ.sliceAll tabOk rfl ?_
        | refine YQ.load1 tabOk rfl 0 rfl rfl ?_
        | refine YQ.load1 tabOk rfl 1 rfl rfl ?_
        | refine YQ.load1 tabOk rfl 2 rfl rfl ?_
        | refine YQ.load1 tabOk rfl 3 rfl rfl ?_
        | refine YQ.load1 tabOk rfl 4 rfl rfl ?_
        | refine YQ.load1 tabOk rfl 5 rfl rfl ?_
        | refine YQ.loadA tabOk rfl 0 rfl rfl rfl ?_
        | refine YQ.loadA tabOk rfl 1 rfl rfl rfl ?_
        | refine YQ.loadA tabOk rfl 2 rfl rfl rfl ?_
        | refine YQ.loadA tabOk rfl 3 rfl rfl rfl ?_
        | refine YQ.loadA tabOk rfl 4 rfl rfl rfl ?_
        | refine YU.store1L tabOk rfl rfl 0 rfl rfl ?_
        | refine YU.store1L tabOk rfl rfl 1 rfl rfl ?_
        | refine YU.store1L tabOk rfl rfl 2 rfl rfl ?_
        | refine YU.store1L tabOk rfl rfl 3 rfl rfl ?_
        | refine YU.store1L tabOk rfl rfl 4 rfl rfl ?_
        | refine YU.storeAL tabOk rfl rfl rfl 0 rfl rfl ?_
        | refine YU.storeAL tabOk rfl rfl rfl 1 rfl rfl ?_
        | refine YU.storeAL tabOk rfl rfl rfl 2 rfl rfl ?_
        | refine YU.storeAL tabOk rfl rfl rfl 3 rfl rfl ?_
        | refine YU.storeAL tabOk rfl rfl rfl 4 rfl rfl ?_
        | refine YQ.build tabOk rfl rfl rfl ?_
        | refine YQ.eqF tabOk rfl rfl rfl ?_
        | refine YQ.neF tabOk rfl rfl rfl ?_
        | refine gsplit.eq (fun hc => ?_) (fun hc => ?_)
        | refine gsplit.neq (fun hc => ?_) (fun hc => ?_)
        | intro b)
      all_goals rfl
    · have hE' : encV v' l' r' f' = .tuple #[.int .u16 0, .int .i64 20] := by simp [encV, h']
      refine Con.of_vc tabOk 65 [.tmp 4] Try.func5 rfl Try.ntmps5 Try.results5 rfl (Own.nil w) ?_
      repeat' ((conv => whnf); first
        | refine YC.con [] [] rfl rfl (fun w _ _ => awake2_con w) (fun x L' hx => ?_)
        | refine YC.con [] [] rfl rfl (fun w _ _ => right_con v l r f w) (fun x L' hx => ?_)
        | refine YC.con [] [] rfl rfl (fun w _ _ => enc_con _ _ _ _ w) (fun x L' hx => ?_)
        | (rw [hE] at hx; obtain ⟨rfl, rfl⟩ := hx; refine ⟨rfl, ?_⟩)
        | (rw [hE'] at hx; obtain ⟨rfl, rfl⟩ := hx; refine ⟨rfl, ?_⟩)
        | (rw [decide_eq_false h] at hx; obtain ⟨rfl, rfl⟩ := hx; refine ⟨rfl, ?_⟩)
        | (obtain ⟨rfl, rfl⟩ := hx; refine ⟨rfl, ?_⟩)
        | refine qneb Try.underlying4 ?_
        | refine gsplit.neg rfl ?_
        | refine Fin.take 0 (And.intro ?_ rfl)
        | refine gsplit.dpos (by omega) ?_
        | refine gsplit.dneg (by omega) ?_
        | refine gsplit.npos (by omega) ?_
        | refine gsplit.nneg (by omega) ?_
        | refine gsplit.dec (fun hc => ?_) (fun hc => ?_)
        | refine gsplit.ndec (fun hc => ?_) (fun hc => ?_)
        | refine BIf.pos rfl ?_
        | refine BIf.neg rfl ?_
        | refine Wr.i64 (by omega) ?_
        | refine Wr.u8 (by omega) ?_
        | refine Wr.u16 (by omega) ?_
        | refine Wr.u32 (by omega) ?_
        | refine YQ.remN (by omega) ?_
        | refine YQ.quoN (by omega) ?_
        | refine YQ.len tabOk rfl ?_
        | refine YQ.idx tabOk rfl (by omega) ?_
        | refine YQ.idxA tabOk rfl (by omega) ?_
        | refine YQ.sliceA tabOk rfl (by omega) (by omega) ?_
        | refine YQ.sliceAll tabOk rfl ?_
        | refine YQ.load1 tabOk rfl 0 rfl rfl ?_
        | refine YQ.load1 tabOk rfl 1 rfl rfl ?_
        | refine YQ.load1 tabOk rfl 2 rfl rfl ?_
        | refine YQ.load1 tabOk rfl 3 rfl rfl ?_
        | refine YQ.load1 tabOk rfl 4 rfl rfl ?_
        | refine YQ.load1 tabOk rfl 5 rfl rfl ?_
        | refine YQ.loadA tabOk rfl 0 rfl rfl rfl ?_
        | refine YQ.loadA tabOk rfl 1 rfl rfl rfl ?_
        | refine YQ.loadA tabOk rfl 2 rfl rfl rfl ?_
        | refine YQ.loadA tabOk rfl 3 rfl rfl rfl ?_
        | refine YQ.loadA tabOk rfl 4 rfl rfl rfl ?_
        | refine YU.store1L tabOk rfl rfl 0 rfl rfl ?_
        | refine YU.store1L tabOk rfl rfl 1 rfl rfl ?_
        | refine YU.store1L tabOk rfl rfl 2 rfl rfl ?_
        | refine YU.store1L tabOk rfl rfl 3 rfl rfl ?_
        | refine YU.store1L tabOk rfl rfl 4 rfl rfl ?_
        | refine YU.storeAL tabOk rfl rfl rfl 0 rfl rfl ?_
        | refine YU.storeAL tabOk rfl rfl rfl 1 rfl rfl ?_
        | refine YU.storeAL tabOk rfl rfl rfl 2 rfl rfl ?_
        | refine YU.storeAL tabOk rfl rfl rfl 3 rfl rfl ?_
        | refine YU.storeAL tabOk rfl rfl rfl 4 rfl rfl ?_
        | refine YQ.build tabOk rfl rfl rfl ?_
        | refine YQ.eqF tabOk rfl rfl rfl ?_
        | refine YQ.neF tabOk rfl rfl rfl ?_
        | refine gsplit.eq (fun hc => ?_) (fun hc => ?_)
        | refine gsplit.neq (fun hc => ?_) (fun hc => ?_)
        | intro b)
      all_goals rfl
theorem pteAll_con (n : Int) (hn : 0 ≤ n ∧ n ≤ 65535) (w : World) : Con Try.prog 6 [.int .u16 n] w [] (fun x L' => x = .bool true ∧ L' = []) := by
  by_cases h : wordP n
  · have hD : decV n = .tuple #[ent (dv n) (dl n) (n / 4 % 8) (n / 64), .int .i64 0] := by simp [decV, h]
    have hE : encV (dv n) (dl n) (n / 4 % 8) (n / 64) = .tuple #[.int .u16 n, .int .i64 0] := by
      have := enc_dec hn h.2
      rw [encV, if_pos h.2, this, h.1]
      simp
    refine Con.of_vc tabOk 41 [.tmp 2] Try.func6 rfl Try.ntmps6 Try.results6 rfl (Own.nil w) ?_
    repeat' ((conv => whnf); first
      | refine YC.con [] [] rfl rfl (fun w _ _ => awake2_con w) (fun x L' hx => ?_)
      | refine YC.con [] [] rfl rfl (fun w _ _ => enc_con (dv n) (dl n) (n / 4 % 8) (n / 64) w) (fun x L' hx => ?_)
      | refine YC.con [] [] rfl rfl (fun w _ _ => dec_con _ w hn) (fun x L' hx => ?_)
      | (rw [hD] at hx; obtain ⟨rfl, rfl⟩ := hx; refine ⟨rfl, ?_⟩)
      | (rw [hE] at hx; obtain ⟨rfl, rfl⟩ := hx; refine ⟨rfl, ?_⟩)
      | (obtain ⟨rfl, rfl⟩ := hx; refine ⟨rfl, ?_⟩)
      | refine Fin.take 0 (And.intro ?_ rfl)
      | refine gsplit.dpos (by omega) ?_
      | refine gsplit.dneg (by omega) ?_
      | refine gsplit.npos (by omega) ?_
      | refine gsplit.nneg (by omega) ?_
      | refine gsplit.dec (fun hc => ?_) (fun hc => ?_)
      | refine gsplit.ndec (fun hc => ?_) (fun hc => ?_)
      | refine BIf.pos rfl ?_
      | refine BIf.neg rfl ?_
      | refine Wr.i64 (by omega) ?_
      | refine Wr.u8 (by omega) ?_
      | refine Wr.u16 (by omega) ?_
      | refine Wr.u32 (by omega) ?_
      | refine YQ.remN (by omega) ?_
      | refine YQ.quoN (by omega) ?_
      | refine YQ.len tabOk rfl ?_
      | refine YQ.idx tabOk rfl (by omega) ?_
      | refine YQ.idxA tabOk rfl (by omega) ?_
      | refine YQ.sliceA tabOk rfl (by omega) (by omega) ?_
      | refine YQ.sliceAll tabOk rfl ?_
      | refine YQ.load1 tabOk rfl 0 rfl rfl ?_
      | refine YQ.load1 tabOk rfl 1 rfl rfl ?_
      | refine YQ.load1 tabOk rfl 2 rfl rfl ?_
      | refine YQ.load1 tabOk rfl 3 rfl rfl ?_
      | refine YQ.load1 tabOk rfl 4 rfl rfl ?_
      | refine YQ.load1 tabOk rfl 5 rfl rfl ?_
      | refine YQ.loadA tabOk rfl 0 rfl rfl rfl ?_
      | refine YQ.loadA tabOk rfl 1 rfl rfl rfl ?_
      | refine YQ.loadA tabOk rfl 2 rfl rfl rfl ?_
      | refine YQ.loadA tabOk rfl 3 rfl rfl rfl ?_
      | refine YQ.loadA tabOk rfl 4 rfl rfl rfl ?_
      | refine YU.store1L tabOk rfl rfl 0 rfl rfl ?_
      | refine YU.store1L tabOk rfl rfl 1 rfl rfl ?_
      | refine YU.store1L tabOk rfl rfl 2 rfl rfl ?_
      | refine YU.store1L tabOk rfl rfl 3 rfl rfl ?_
      | refine YU.store1L tabOk rfl rfl 4 rfl rfl ?_
      | refine YU.storeAL tabOk rfl rfl rfl 0 rfl rfl ?_
      | refine YU.storeAL tabOk rfl rfl rfl 1 rfl rfl ?_
      | refine YU.storeAL tabOk rfl rfl rfl 2 rfl rfl ?_
      | refine YU.storeAL tabOk rfl rfl rfl 3 rfl rfl ?_
      | refine YU.storeAL tabOk rfl rfl rfl 4 rfl rfl ?_
      | refine YQ.build tabOk rfl rfl rfl ?_
      | refine YQ.eqF tabOk rfl rfl rfl ?_
      | refine YQ.neF tabOk rfl rfl rfl ?_
      | refine gsplit.eq (fun hc => ?_) (fun hc => ?_)
      | refine gsplit.neq (fun hc => ?_) (fun hc => ?_)
      | intro b)
    all_goals
      show Value.bool _ = Value.bool _
      congr 1
      exact decide_eq_true rfl
  · have hD : decV n = .tuple #[ent false false 0 0, .int .i64 20] := by simp [decV, h]
    refine Con.of_vc tabOk 41 [.tmp 2] Try.func6 rfl Try.ntmps6 Try.results6 rfl (Own.nil w) ?_
    repeat' ((conv => whnf); first
      | refine YC.con [] [] rfl rfl (fun w _ _ => awake2_con w) (fun x L' hx => ?_)
      | refine YC.con [] [] rfl rfl (fun w _ _ => dec_con _ w hn) (fun x L' hx => ?_)
      | (rw [hD] at hx; obtain ⟨rfl, rfl⟩ := hx; refine ⟨rfl, ?_⟩)
      | (obtain ⟨rfl, rfl⟩ := hx; refine ⟨rfl, ?_⟩)
      | refine Fin.take 0 (And.intro ?_ rfl)
      | refine gsplit.dpos (by omega) ?_
      | refine gsplit.dneg (by omega) ?_
      | refine gsplit.npos (by omega) ?_
      | refine gsplit.nneg (by omega) ?_
      | refine gsplit.dec (fun hc => ?_) (fun hc => ?_)
      | refine gsplit.ndec (fun hc => ?_) (fun hc => ?_)
      | refine BIf.pos rfl ?_
      | refine BIf.neg rfl ?_
      | refine Wr.i64 (by omega) ?_
      | refine Wr.u8 (by omega) ?_
      | refine Wr.u16 (by omega) ?_
      | refine Wr.u32 (by omega) ?_
      | refine YQ.remN (by omega) ?_
      | refine YQ.quoN (by omega) ?_
      | refine YQ.len tabOk rfl ?_
      | refine YQ.idx tabOk rfl (by omega) ?_
      | refine YQ.idxA tabOk rfl (by omega) ?_
      | refine YQ.sliceA tabOk rfl (by omega) (by omega) ?_
      | refine YQ.sliceAll tabOk rfl ?_
      | refine YQ.load1 tabOk rfl 0 rfl rfl ?_
      | refine YQ.load1 tabOk rfl 1 rfl rfl ?_
      | refine YQ.load1 tabOk rfl 2 rfl rfl ?_
      | refine YQ.load1 tabOk rfl 3 rfl rfl ?_
      | refine YQ.load1 tabOk rfl 4 rfl rfl ?_
      | refine YQ.load1 tabOk rfl 5 rfl rfl ?_
      | refine YQ.loadA tabOk rfl 0 rfl rfl rfl ?_
      | refine YQ.loadA tabOk rfl 1 rfl rfl rfl ?_
      | refine YQ.loadA tabOk rfl 2 rfl rfl rfl ?_
      | refine YQ.loadA tabOk rfl 3 rfl rfl rfl ?_
      | refine YQ.loadA tabOk rfl 4 rfl rfl rfl ?_
      | refine YU.store1L tabOk rfl rfl 0 rfl rfl ?_
      | refine YU.store1L tabOk rfl rfl 1 rfl rfl ?_
      | refine YU.store1L tabOk rfl rfl 2 rfl rfl ?_
      | refine YU.store1L tabOk rfl rfl 3 rfl rfl ?_
      | refine YU.store1L tabOk rfl rfl 4 rfl rfl ?_
      | refine YU.storeAL tabOk rfl rfl rfl 0 rfl rfl ?_
      | refine YU.storeAL tabOk rfl rfl rfl 1 rfl rfl ?_
      | refine YU.storeAL tabOk rfl rfl rfl 2 rfl rfl ?_
      | refine YU.storeAL tabOk rfl rfl rfl 3 rfl rfl ?_
      | refine YU.storeAL tabOk rfl rfl rfl 4 rfl rfl ?_
      | refine YQ.build tabOk rfl rfl rfl ?_
      | refine YQ.eqF tabOk rfl rfl rfl ?_
      | refine YQ.neF tabOk rfl rfl rfl ?_
      | refine gsplit.eq (fun hc => ?_) (fun hc => ?_)
      | refine gsplit.neq (fun hc => ?_) (fun hc => ?_)
      | intro b)
    all_goals
      show Value.bool _ = Value.bool _
      congr 1
      exact eqB_true.2 ⟨rfl, rfl, rfl, rfl, trivial⟩
theorem rd_entry {W : World} {n : Nat} {cs : List Value} (h : Rd Try.prog W n 34 cs) : ∃ (v l : Bool) (r f : Int), cs = [.bool v, .bool l, .int .i64 r, .int .i64 f] ∧ (Lit.int .i64 r).wf = true ∧ (Lit.int .i64 f).wf = true := by
  obtain ⟨hl, m, hf⟩ := rd_struct h Try.underlying34
  have hc : Try.prog.cellsOf 34 = 4 := by kernel_rfl
  have hb : Try.prog.cellsOf 4 = 1 := by kernel_rfl
  have hi : Try.prog.cellsOf 3 = 1 := by kernel_rfl
  rw [hc] at hl
  obtain ⟨c0, c1, c2, c3, rfl⟩ : ∃ a b c d, cs = [a, b, c, d] := by
    match cs, hl with
    | [a, b, c, d], _ => exact ⟨a, b, c, d, rfl⟩
  obtain ⟨v, h0⟩ := rd_bool (hf 0 _ rfl) Try.underlying4
  obtain ⟨l, h1⟩ := rd_bool (hf 1 _ rfl) Try.underlying4
  obtain ⟨r, h2, w2⟩ := rd_int (hf 2 _ rfl) Try.underlying3
  obtain ⟨f, h3, w3⟩ := rd_int (hf 3 _ rfl) Try.underlying3
  simp [hb] at h0 h1
  simp [hi] at h2 h3
  exact ⟨v, l, r, f, by rw [h0, h1, h2, h3], w2, w3⟩
theorem pteWords_walk (a0 : Array Value) (n0 : Nat) {W : World} (rd0 : Rd Try.prog W n0 34 (Value.agg a0).cells.toList) (n : Int) (w1 : (Lit.int .u16 n).wf = true) (page : Int) (w2 : (Lit.int .i64 page).wf = true) (level : Int) (w3 : (Lit.int .i64 level).wf = true) (w : World) :
    Calls Try.prog 4 #[.agg a0, .int .u16 n, .int .i64 page, .int .i64 level] w fun e w' => e = .returned (.bool true) ∧ RowKit.Below w.heap.size w w' := by
  obtain ⟨v, l, r, f, h, _, _⟩ := rd_entry rd0
  have : a0 = #[.bool v, .bool l, .int .i64 r, .int .i64 f] := by apply Array.ext'; exact h
  subst this
  exact (pteWords_con v l r f n page level (wf_u16 w1) w).law
theorem pteBack_walk (a0 : Array Value) (n0 : Nat) {W : World} (rd0 : Rd Try.prog W n0 34 (Value.agg a0).cells.toList) (a1 : Array Value) (n1 : Nat) (rd1 : Rd Try.prog W n1 34 (Value.agg a1).cells.toList) (w : World) :
    Calls Try.prog 5 #[.agg a0, .agg a1] w fun e w' => e = .returned (.bool true) ∧ RowKit.Below w.heap.size w w' := by
  obtain ⟨v, l, r, f, h, _, _⟩ := rd_entry rd0
  obtain ⟨v', l', r', f', h', _, _⟩ := rd_entry rd1
  have : a0 = #[.bool v, .bool l, .int .i64 r, .int .i64 f] := by apply Array.ext'; exact h
  subst this
  have : a1 = #[.bool v', .bool l', .int .i64 r', .int .i64 f'] := by apply Array.ext'; exact h'
  subst this
  exact (pteBack_con v l r f v' l' r' f' w).law
theorem pteAll_walk (n : Int) (w0 : (Lit.int .u16 n).wf = true) (w : World) :
    Calls Try.prog 6 #[.int .u16 n] w fun e w' => e = .returned (.bool true) ∧ RowKit.Below w.heap.size w w' := (pteAll_con n (wf_u16 w0) w).law
end Go.Proofs.Ytmpjdoodpkhmpaa
