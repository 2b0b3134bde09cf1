/- Reaching a page by the buffer, or by the tables: the program's and the document's are one. Conditions: none. -/
import Derived.Test.YtbohpchmofkllaaWalkP
import Derived.Test.YtbohpchmofkllaaTlb4
set_option linter.unusedVariables false
set_option linter.unusedSimpArgs false
set_option linter.unusedSectionVars false
set_option maxRecDepth 10000
set_option maxHeartbeats 8000000
namespace Go.Proofs.Ytbohpchmofkllaa
open Vc Mem
structure Rc where
  a : Int
  f : Fa
  ls : List Ln
def missed (n : Nat) (xs : List Int) (ls : List Ln) (s : Sp) (pg want at_ : Int) : Rc :=
  if ¬ (nst n xs s pg want).f.k = 0 then ⟨0, (nst n xs s pg want).f, ls⟩ else ⟨(nst n xs s pg want).a, fa0, fillL at_ ⟨s.vm, s.sid, pg, (nst n xs s pg want).a, (nst n xs s pg want).b⟩ ls⟩
def rch (n : Nat) (xs : List Int) (ls : List Ln) (s : Sp) (pg want at_ : Int) : Rc :=
  match ls.find? (mt s.vm s.sid pg) with
  | some y => if ¬ band y.r want = 0 ∧ (want = 1 ∨ want = 2 ∨ want = 4) then ⟨y.f, fa0, ls⟩ else missed n xs ls s pg want at_
  | none => missed n xs ls s pg want at_
abbrev rcV (r : Rc) : Value := .tuple #[.int .i64 r.a, faA r.f]
theorem TI_missed {ls : List Ln} (h : TI ls) (n : Nat) (xs : List Int) (s : Sp) (pg want at_ : Int) : TI (missed n xs ls s pg want at_).ls := by
  unfold missed
  split
  · exact h
  · exact TI_fill h _ _
theorem TI_rch {ls : List Ln} (h : TI ls) (n : Nat) (xs : List Int) (s : Sp) (pg want at_ : Int) : TI (rch n xs ls s pg want at_).ls := by
  unfold rch
  split
  · split
    · exact h
    · exact TI_missed h _ _ _ _ _ _
  · exact TI_missed h _ _ _ _ _ _
theorem scd_f0 {n : Nat} {xs : List Int} {root pg want : Int} (h : (scd n xs root pg want).f.k = 0) : (scd n xs root pg want).f = fa0 := by
  unfold scd at h ⊢
  split
  · rename_i h1; rw [if_pos h1] at h; exact absurd h h1
  · rename_i h1
    rw [if_neg h1] at h
    split
    · rename_i h2; rw [if_pos h2] at h; exact absurd h (by show ¬ ((2 : Int) = 0); decide)
    · rfl
theorem nst_f0 {n : Nat} {xs : List Int} {s : Sp} {pg want : Int} (h : (nst n xs s pg want).f.k = 0) : (nst n xs s pg want).f = fa0 := by
  unfold nst at h ⊢
  split
  · rename_i h1; rw [if_pos h1] at h; exact absurd h (by decide)
  · rename_i h1
    rw [if_neg h1] at h
    split
    · rename_i h2; rw [if_pos h2] at h; exact scd_f0 h
    · rename_i h2
      rw [if_neg h2] at h
      split
      · rename_i h3; rw [if_pos h3] at h; exact absurd h h3
      · rename_i h3
        rw [if_neg h3] at h
        split
        · rename_i h4; rw [if_pos h4] at h; exact absurd h (by show ¬ ((2 : Int) = 0); decide)
        · rename_i h4
          rw [if_neg h4] at h
          exact scd_f0 h
section
variable (p F n : Nat) (hn : n ≤ 1024) (xs : List Int) (hx0 : By xs) (hl : xs.length = n * 64) (t : Nat) (ls : List Ln) (h : TI ls) (f m : Int)
include hn hx0 hl h
theorem reach_con (s : Sp) (pg want at_ : Int) (w : World) (hw : Own w [ramE p F n, frE F xs, tlbE t ls f m]) :
    Con Try.prog 26 [.pointer (some ⟨p, 0, none⟩), .pointer (some ⟨t, 0, none⟩), spA s, .int .i64 pg, .int .i64 want, .int .i64 at_] w [ramE p F n, frE F xs, tlbE t ls f m]
      (fun y L' => y = rcV (rch n xs ls s pg want at_) ∧ L' = [ramE p F n, frE F xs, tlbE t (rch n xs ls s pg want at_).ls (fndF f (ls.find? (mt s.vm s.sid pg))) (fndM m (ls.find? (mt s.vm s.sid pg)))]) := by
  cases hfd : ls.find? (mt s.vm s.sid pg)
  all_goals
    refine Con.of_vc tabOk 70 [.tmp 12, .cell 13 31] Try.func26 rfl Try.ntmps26 Try.results26 rfl hw ?_
    repeat' ((conv => whnf); first
      | (show _ ∧ _; first | (simp only [hfd, fndV, fndF, fndM] at hx) | (obtain ⟨rfl, rfl⟩ := hx; refine ⟨rfl, ?_⟩) | (obtain ⟨b, rfl, rfl⟩ := hx; refine ⟨rfl, ?_⟩) | (obtain ⟨b, c, rfl, rfl⟩ := hx; refine ⟨rfl, ?_⟩))
      | (show gsplit _ _ _; first | refine gsplit.tt ?_ | refine gsplit.ff ?_ | refine gsplit.dpos (by omega) ?_ | refine gsplit.dneg (by omega) ?_ | refine gsplit.npos (by omega) ?_ | refine gsplit.nneg (by omega) ?_ | refine gsplit.dec (fun hc => ?_) (fun hc => ?_) | refine gsplit.ndec (fun hc => ?_) (fun hc => ?_) | refine gsplit.eq (fun hc => ?_) (fun hc => ?_) | refine gsplit.neq (fun hc => ?_) (fun hc => ?_) | refine gsplit.mk (fun hb => ?_) (fun hb => ?_))
      | (show YQ _ _ _ _ _ _; first | refine YQ.bits (.inl rfl) ?_ | refine YQ.remN (by omega) ?_ | refine YQ.quoN (by omega) ?_ | refine YQ.len tabOk rfl ?_ | refine YQ.idx tabOk rfl (by omega) ?_ | refine YQ.idxA tabOk rfl (by omega) ?_ | refine YQ.sliceA tabOk rfl (by omega) (by omega) ?_ | refine YQ.sliceAll tabOk rfl ?_ | refine YQ.load1 tabOk rfl 0 rfl rfl ?_ | refine YQ.load1 tabOk rfl 1 rfl rfl ?_ | refine YQ.load1 tabOk rfl 2 rfl rfl ?_ | refine YQ.load1 tabOk rfl 3 rfl rfl ?_ | refine YQ.load1 tabOk rfl 4 rfl rfl ?_ | refine YQ.load1 tabOk rfl 5 rfl rfl ?_ | refine YQ.load1 tabOk rfl 6 rfl rfl ?_ | refine YQ.load1 tabOk rfl 7 rfl rfl ?_ | refine YQ.loadF tabOk rfl 0 rfl rfl ?_ | refine YQ.loadF tabOk rfl 1 rfl rfl ?_ | refine YQ.loadF tabOk rfl 2 rfl rfl ?_ | refine YQ.loadF tabOk rfl 3 rfl rfl ?_ | refine YQ.loadF tabOk rfl 4 rfl rfl ?_ | refine YQ.loadF tabOk rfl 5 rfl rfl ?_ | refine YQ.loadF tabOk rfl 6 rfl rfl ?_ | refine YQ.loadF tabOk rfl 7 rfl rfl ?_ | refine YQ.loadA tabOk rfl 0 rfl rfl rfl ?_ | refine YQ.loadA tabOk rfl 1 rfl rfl rfl ?_ | refine YQ.loadA tabOk rfl 2 rfl rfl rfl ?_ | refine YQ.loadA tabOk rfl 3 rfl rfl rfl ?_ | refine YQ.loadA tabOk rfl 4 rfl rfl rfl ?_ | refine YQ.build tabOk rfl rfl rfl ?_ | refine YQ.eqF tabOk rfl rfl rfl ?_ | refine YQ.neF tabOk rfl rfl rfl ?_)
      | (show YC _ _ _ _ _ _ _; first | refine YC.conR [2] _ rfl rfl (fun w hw0 hw => find_con t ls h.len f m s.vm s.sid pg w hw) (fun x L' hx => ?_) | refine YC.conR [] [] rfl rfl (fun w _ _ => isRight_con want w) (fun x L' hx => ?_) | refine YC.conR [0, 1] _ rfl rfl (fun w hw0 hw => nested_con p F n hn xs hx0 hl s pg want w hw) (fun x L' hx => ?_) | refine YC.conR [2] _ rfl rfl (fun w hw0 hw => fill_con t ls h.len _ _ w hw at_ ⟨s.vm, s.sid, pg, (nst n xs s pg want).a, (nst n xs s pg want).b⟩) (fun x L' hx => ?_))
      | (show YU _ _ _ _ _ _ _ _; first | refine YU.store1L tabOk rfl rfl 0 rfl rfl ?_ | refine YU.store1L tabOk rfl rfl 1 rfl rfl ?_ | refine YU.store1L tabOk rfl rfl 2 rfl rfl ?_ | refine YU.store1L tabOk rfl rfl 3 rfl rfl ?_ | refine YU.store1L tabOk rfl rfl 4 rfl rfl ?_ | refine YU.store1L tabOk rfl rfl 5 rfl rfl ?_ | refine YU.store1L tabOk rfl rfl 6 rfl rfl ?_ | refine YU.store1L tabOk rfl rfl 7 rfl rfl ?_ | refine YU.storeF tabOk rfl rfl rfl 0 rfl rfl ?_ | refine YU.storeF tabOk rfl rfl rfl 1 rfl rfl ?_ | refine YU.storeF tabOk rfl rfl rfl 2 rfl rfl ?_ | refine YU.storeF tabOk rfl rfl rfl 3 rfl rfl ?_ | refine YU.storeF tabOk rfl rfl rfl 4 rfl rfl ?_ | refine YU.storeF tabOk rfl rfl rfl 5 rfl rfl ?_ | refine YU.storeF tabOk rfl rfl rfl 6 rfl rfl ?_ | refine YU.storeF tabOk rfl rfl rfl 7 rfl rfl ?_ | refine YU.storeAL tabOk rfl rfl rfl 0 rfl rfl ?_ | refine YU.storeAL tabOk rfl rfl rfl 1 rfl rfl ?_ | refine YU.storeAL tabOk rfl rfl rfl 2 rfl rfl ?_ | refine YU.storeAL tabOk rfl rfl rfl 3 rfl rfl ?_ | refine YU.storeAL tabOk rfl rfl rfl 4 rfl rfl ?_)
      | (show Wr _ _ _; first | refine Wr.i64 (by omega) ?_ | refine Wr.u8 (by omega) ?_ | refine Wr.u16 (by omega) ?_ | refine Wr.u32 (by omega) ?_)
      | (show BIf _ _ _; first | refine BIf.pos rfl ?_ | refine BIf.neg rfl ?_)
      | (show Dr _ _ _ _ _ _ _ _ _; first | (show Dr _ _ _ _ _ (Array.toList #[_, _, _]) _ _ _; refine Dr.mk 2 (by kernel_rfl) ?_) | refine Dr.all (by kernel_rfl) ?_)
      | (show Fork _ _; first | refine Fork.mk ?_ ?_)
      | (show Vc.Fin _ _ _; first | refine Fin.take 3 (And.intro ?_ ?_))
      | intro b)
  all_goals first
    | (simp only [rch, hfd, missed]; (repeat' split) <;> first | rfl | contradiction | (exfalso; omega) | (exfalso; simp_all; done))
end
section
variable (q B n : Nat) (hn : n ≤ 1024) (xs : List Int) (hx0 : By xs) (hl : xs.length = n * 64) (t : Nat) (ls : List Ln) (h : TI ls) (f m : Int)
include hn hx0 hl h
theorem rreach_con (s : Sp) (pg want at_ : Int) (w : World) (hw : Own w [refE q B n, byE B xs, tlbR t ls f m]) :
    Con Try.prog 29 [.pointer (some ⟨q, 0, none⟩), .pointer (some ⟨t, 0, none⟩), spA s, .int .i64 pg, .int .i64 want, .int .i64 at_] w [refE q B n, byE B xs, tlbR t ls f m]
      (fun y L' => y = rcV (rch n xs ls s pg want at_) ∧ L' = [refE q B n, byE B xs, tlbR t (rch n xs ls s pg want at_).ls (fndF f (ls.find? (mt s.vm s.sid pg))) (fndM m (ls.find? (mt s.vm s.sid pg)))]) := by
  have hD := rfnd_eq h s.vm s.sid pg
  have hF := fun l => fillR_eq h at_ l
  cases hfd : ls.find? (mt s.vm s.sid pg)
  all_goals
    refine Con.of_vc tabOk 78 [.tmp 12, .cell 13 31] Try.func29 rfl Try.ntmps29 Try.results29 rfl hw ?_
    repeat' ((conv => whnf); first
      | (show _ ∧ _; first | (simp only [hD, hF, hfd, fndV, fndF, fndM] at hx) | (obtain ⟨rfl, rfl⟩ := hx; refine ⟨rfl, ?_⟩) | (obtain ⟨b, rfl, rfl⟩ := hx; refine ⟨rfl, ?_⟩) | (obtain ⟨b, c, rfl, rfl⟩ := hx; refine ⟨rfl, ?_⟩))
      | (show gsplit _ _ _; first | refine gsplit.tt ?_ | refine gsplit.ff ?_ | refine gsplit.dpos (by omega) ?_ | refine gsplit.dneg (by omega) ?_ | refine gsplit.npos (by omega) ?_ | refine gsplit.nneg (by omega) ?_ | refine gsplit.dec (fun hc => ?_) (fun hc => ?_) | refine gsplit.ndec (fun hc => ?_) (fun hc => ?_) | refine gsplit.eq (fun hc => ?_) (fun hc => ?_) | refine gsplit.neq (fun hc => ?_) (fun hc => ?_) | refine gsplit.mk (fun hb => ?_) (fun hb => ?_))
      | (show YQ _ _ _ _ _ _; first | refine YQ.bits (.inl rfl) ?_ | refine YQ.remN (by omega) ?_ | refine YQ.quoN (by omega) ?_ | refine YQ.len tabOk rfl ?_ | refine YQ.idx tabOk rfl (by omega) ?_ | refine YQ.idxA tabOk rfl (by omega) ?_ | refine YQ.sliceA tabOk rfl (by omega) (by omega) ?_ | refine YQ.sliceAll tabOk rfl ?_ | refine YQ.load1 tabOk rfl 0 rfl rfl ?_ | refine YQ.load1 tabOk rfl 1 rfl rfl ?_ | refine YQ.load1 tabOk rfl 2 rfl rfl ?_ | refine YQ.load1 tabOk rfl 3 rfl rfl ?_ | refine YQ.load1 tabOk rfl 4 rfl rfl ?_ | refine YQ.load1 tabOk rfl 5 rfl rfl ?_ | refine YQ.load1 tabOk rfl 6 rfl rfl ?_ | refine YQ.load1 tabOk rfl 7 rfl rfl ?_ | refine YQ.loadF tabOk rfl 0 rfl rfl ?_ | refine YQ.loadF tabOk rfl 1 rfl rfl ?_ | refine YQ.loadF tabOk rfl 2 rfl rfl ?_ | refine YQ.loadF tabOk rfl 3 rfl rfl ?_ | refine YQ.loadF tabOk rfl 4 rfl rfl ?_ | refine YQ.loadF tabOk rfl 5 rfl rfl ?_ | refine YQ.loadF tabOk rfl 6 rfl rfl ?_ | refine YQ.loadF tabOk rfl 7 rfl rfl ?_ | refine YQ.loadA tabOk rfl 0 rfl rfl rfl ?_ | refine YQ.loadA tabOk rfl 1 rfl rfl rfl ?_ | refine YQ.loadA tabOk rfl 2 rfl rfl rfl ?_ | refine YQ.loadA tabOk rfl 3 rfl rfl rfl ?_ | refine YQ.loadA tabOk rfl 4 rfl rfl rfl ?_ | refine YQ.build tabOk rfl rfl rfl ?_ | refine YQ.eqF tabOk rfl rfl rfl ?_ | refine YQ.neF tabOk rfl rfl rfl ?_)
      | (show YC _ _ _ _ _ _ _; first | refine YC.conR [2] _ rfl rfl (fun w hw0 hw => find_ref t ls h.len f m w hw s.vm s.sid pg) (fun x L' hx => ?_) | refine YC.conR [0, 1] _ rfl rfl (fun w hw0 hw => rnested_con q B n hn xs hx0 hl s pg want w hw) (fun x L' hx => ?_) | refine YC.conR [2] _ rfl rfl (fun w hw0 hw => fill_ref t ls h.len _ _ w hw at_ ⟨s.vm, s.sid, pg, (nst n xs s pg want).a, (nst n xs s pg want).b⟩) (fun x L' hx => ?_))
      | (show YU _ _ _ _ _ _ _ _; first | refine YU.store1L tabOk rfl rfl 0 rfl rfl ?_ | refine YU.store1L tabOk rfl rfl 1 rfl rfl ?_ | refine YU.store1L tabOk rfl rfl 2 rfl rfl ?_ | refine YU.store1L tabOk rfl rfl 3 rfl rfl ?_ | refine YU.store1L tabOk rfl rfl 4 rfl rfl ?_ | refine YU.store1L tabOk rfl rfl 5 rfl rfl ?_ | refine YU.store1L tabOk rfl rfl 6 rfl rfl ?_ | refine YU.store1L tabOk rfl rfl 7 rfl rfl ?_ | refine YU.storeF tabOk rfl rfl rfl 0 rfl rfl ?_ | refine YU.storeF tabOk rfl rfl rfl 1 rfl rfl ?_ | refine YU.storeF tabOk rfl rfl rfl 2 rfl rfl ?_ | refine YU.storeF tabOk rfl rfl rfl 3 rfl rfl ?_ | refine YU.storeF tabOk rfl rfl rfl 4 rfl rfl ?_ | refine YU.storeF tabOk rfl rfl rfl 5 rfl rfl ?_ | refine YU.storeF tabOk rfl rfl rfl 6 rfl rfl ?_ | refine YU.storeF tabOk rfl rfl rfl 7 rfl rfl ?_ | refine YU.storeAL tabOk rfl rfl rfl 0 rfl rfl ?_ | refine YU.storeAL tabOk rfl rfl rfl 1 rfl rfl ?_ | refine YU.storeAL tabOk rfl rfl rfl 2 rfl rfl ?_ | refine YU.storeAL tabOk rfl rfl rfl 3 rfl rfl ?_ | refine YU.storeAL tabOk rfl rfl rfl 4 rfl rfl ?_)
      | (show Wr _ _ _; first | refine Wr.i64 (by omega) ?_ | refine Wr.u8 (by omega) ?_ | refine Wr.u16 (by omega) ?_ | refine Wr.u32 (by omega) ?_)
      | (show BIf _ _ _; first | refine BIf.pos rfl ?_ | refine BIf.neg rfl ?_)
      | (show Dr _ _ _ _ _ _ _ _ _; first | (show Dr _ _ _ _ _ (Array.toList #[_, _, _]) _ _ _; refine Dr.mk 2 (by kernel_rfl) ?_) | (show Dr _ _ _ _ _ (Array.toList #[_, _, _, _]) _ _ _; refine Dr.mk 3 (by kernel_rfl) ?_) | refine Dr.all (by kernel_rfl) ?_)
      | (show Fork _ _; first | refine Fork.mk ?_ ?_)
      | (show Vc.Fin _ _ _; first | refine Fin.take 3 (And.intro ?_ ?_))
      | intro b)
  all_goals first
    | (simp only [rch, hfd, missed]; (repeat' split) <;> first | rfl | contradiction | (exfalso; omega) | (exfalso; simp_all; done) | (rw [nst_f0 (by assumption)]; rfl))
end
end Go.Proofs.Ytbohpchmofkllaa
