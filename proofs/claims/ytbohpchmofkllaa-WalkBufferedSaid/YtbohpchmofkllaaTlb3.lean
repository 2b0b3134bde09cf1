/- Contracts of the document's buffer of translations. Conditions: none. -/
import Derived.Test.YtbohpchmofkllaaTlb2
set_option linter.unusedVariables false
set_option linter.unusedSimpArgs false
set_option maxRecDepth 10000
set_option maxHeartbeats 4000000
namespace Go.Proofs.Ytbohpchmofkllaa
open Vc
abbrev tlbR (p : Nat) (ls : List Ln) (f m : Int) : Ent := ⟨p, 73, rows lnV ls ++ [.int .i64 f, .int .i64 m]⟩
def mtR (v a p : Int) (l : Ln) : Bool := decide (l.v ≠ 0 ∧ l.v = v ∧ l.a = a ∧ l.p = p)
def ixI : Option Nat → Int
  | some i => i
  | none => -1
def rl (c : Ln → Bool) (ls : List Ln) : List Ln := ls.map (fun l => if c l = true then ln0 else l)
def rn (c : Ln → Bool) (ls : List Ln) : Nat := ls.countP c
theorem rl_length (c : Ln → Bool) (ls : List Ln) (i : Nat) (h : i ≤ ls.length) : (rl c (ls.take i) ++ ls.drop i).length = ls.length := by simp [rl]; omega
theorem rl_at (c : Ln → Bool) (ls : List Ln) (i : Nat) (h : i < ls.length) : (rl c (ls.take i) ++ ls.drop i)[i]? = some ls[i] := by
  rw [List.getElem?_append_right (by simp [rl]; omega)]
  simp [rl, Nat.min_eq_left (Nat.le_of_lt h), List.getElem?_eq_getElem h]
theorem rl_t (c : Ln → Bool) (ls : List Ln) (i : Nat) (h : i < ls.length) (h1 : c ls[i] = true) : (rl c (ls.take i) ++ ls.drop i).set i ln0 = rl c (ls.take (i + 1)) ++ ls.drop (i + 1) := by
  simp only [rl]
  rw [List.take_succ_eq_append_getElem h, List.map_append, List.map_cons, List.map_nil, if_pos h1, List.drop_eq_getElem_cons h]
  rw [List.set_append_right _ _ (by simp; omega)]
  rw [List.length_map, List.length_take, Nat.min_eq_left (Nat.le_of_lt h), Nat.sub_self, List.set_cons_zero, List.append_assoc]
  rfl
theorem rl_f (c : Ln → Bool) (ls : List Ln) (i : Nat) (h : i < ls.length) (h1 : ¬ c ls[i] = true) : rl c (ls.take i) ++ ls.drop i = rl c (ls.take (i + 1)) ++ ls.drop (i + 1) := by
  simp only [rl]
  rw [List.take_succ_eq_append_getElem h, List.map_append, List.map_cons, List.map_nil, if_neg h1, List.drop_eq_getElem_cons h]
  simp
theorem rn_t (c : Ln → Bool) (ls : List Ln) (i : Nat) (h : i < ls.length) (h1 : c ls[i] = true) : rn c (ls.take (i + 1)) = rn c (ls.take i) + 1 := by
  rw [List.take_succ_eq_append_getElem h, rn, List.countP_append, List.countP_singleton, if_pos h1]; rfl
theorem rn_f (c : Ln → Bool) (ls : List Ln) (i : Nat) (h : i < ls.length) (h1 : ¬ c ls[i] = true) : rn c (ls.take (i + 1)) = rn c (ls.take i) := by
  rw [List.take_succ_eq_append_getElem h, rn, List.countP_append, List.countP_singleton, if_neg h1]; rfl
theorem rn_le (c : Ln → Bool) (ls : List Ln) : rn c ls ≤ ls.length := List.countP_le_length
/-- What a flush of numbers takes; below 0: any. -/
def prR (v a p : Int) (l : Ln) : Bool := decide (l.v ≠ 0 ∧ (v < 0 ∨ l.v = v) ∧ (a < 0 ∨ l.a = a) ∧ (p < 0 ∨ l.p = p))
theorem no_step {c : Ln → Bool} {ls : List Ln} {i : Nat} (h : ∀ (j : Nat) (h : j < ls.length), j < i → ¬ c ls[j] = true) (h1 : ∀ (h : i < ls.length), ¬ c ls[i] = true) : ∀ (j : Nat) (h : j < ls.length), j < i + 1 → ¬ c ls[j] = true := by
  intro j hj hji
  rcases Nat.lt_or_ge j i with h2 | h2
  · exact h j hj h2
  · have : j = i := by omega
    subst this
    exact h1 hj
section
variable (p : Nat) (ls : List Ln) (hlen : ls.length = 8) (f m : Int) (w : World) (hw : Own w [tlbR p ls f m])
include hlen hw
theorem at_ref (v a pg : Int) : Con Try.prog 69 [.pointer (some ⟨p, 0, none⟩), .int .i64 v, .int .i64 a, .int .i64 pg] w [tlbR p ls f m]
    (fun y L' => y = .int .i64 (ixI (ls.findIdx? (mtR v a pg))) ∧ L' = [tlbR p ls f m]) := by
  refine Con.of_vc tabOk 56 [.tmp 8] Try.func69 rfl Try.ntmps69 Try.results69 rfl hw ?_
  repeat' ((conv => whnf); first
    | (show _ ∧ _; first | (obtain ⟨rfl, rfl⟩ := hx; refine ⟨rfl, ?_⟩) | (obtain ⟨b, rfl, rfl⟩ := hx; refine ⟨rfl, ?_⟩) | (obtain ⟨b, c, rfl, rfl⟩ := hx; refine ⟨rfl, ?_⟩))
    | (show gsplit _ _ _; first | refine gsplit.tt ?_ | refine gsplit.ff ?_ | refine gsplit.dpos (by omega) ?_ | refine gsplit.dneg (by omega) ?_ | refine gsplit.npos (by omega) ?_ | refine gsplit.nneg (by omega) ?_ | refine gsplit.dec (fun hc => ?_) (fun hc => ?_) | refine gsplit.ndec (fun hc => ?_) (fun hc => ?_) | refine gsplit.eq (fun hc => ?_) (fun hc => ?_) | refine gsplit.neq (fun hc => ?_) (fun hc => ?_))
    | (show YQ _ _ _ _ _ _; first | refine YQ.loadR tabOk rfl 0 i rfl lnV_len (List.getElem?_eq_getElem (by omega)) 0 (by omega) rfl ?_ | refine YQ.loadR tabOk rfl 0 i rfl lnV_len (List.getElem?_eq_getElem (by omega)) 1 (by omega) rfl ?_ | refine YQ.loadR tabOk rfl 0 i rfl lnV_len (List.getElem?_eq_getElem (by omega)) 2 (by omega) rfl ?_ | refine YQ.remN (by omega) ?_ | refine YQ.quoN (by omega) ?_ | refine YQ.len tabOk rfl ?_ | refine YQ.idx tabOk rfl (by omega) ?_ | refine YQ.idxA tabOk rfl (by omega) ?_ | refine YQ.sliceA tabOk rfl (by omega) (by omega) ?_ | refine YQ.sliceAll tabOk rfl ?_ | refine YQ.load1 tabOk rfl 0 rfl rfl ?_ | refine YQ.load1 tabOk rfl 1 rfl rfl ?_ | refine YQ.load1 tabOk rfl 2 rfl rfl ?_ | refine YQ.load1 tabOk rfl 3 rfl rfl ?_ | refine YQ.load1 tabOk rfl 4 rfl rfl ?_ | refine YQ.load1 tabOk rfl 5 rfl rfl ?_ | refine YQ.loadF tabOk rfl 0 rfl rfl ?_ | refine YQ.loadF tabOk rfl 1 rfl rfl ?_ | refine YQ.loadF tabOk rfl 2 rfl rfl ?_ | refine YQ.loadF tabOk rfl 3 rfl rfl ?_ | refine YQ.loadF tabOk rfl 4 rfl rfl ?_ | refine YQ.loadF tabOk rfl 5 rfl rfl ?_ | refine YQ.loadA tabOk rfl 0 rfl rfl rfl ?_ | refine YQ.loadA tabOk rfl 1 rfl rfl rfl ?_ | refine YQ.loadA tabOk rfl 2 rfl rfl rfl ?_ | refine YQ.loadA tabOk rfl 3 rfl rfl rfl ?_ | refine YQ.loadA tabOk rfl 4 rfl rfl rfl ?_ | refine YQ.build tabOk rfl rfl rfl ?_ | refine YQ.eqF tabOk rfl rfl rfl ?_ | refine YQ.neF tabOk rfl rfl rfl ?_)
    | (show YU _ _ _ _ _ _ _ _; first | refine YU.store1L tabOk rfl rfl 0 rfl rfl ?_ | refine YU.store1L tabOk rfl rfl 1 rfl rfl ?_ | refine YU.store1L tabOk rfl rfl 2 rfl rfl ?_ | refine YU.store1L tabOk rfl rfl 3 rfl rfl ?_ | refine YU.store1L tabOk rfl rfl 4 rfl rfl ?_ | refine YU.storeF tabOk rfl rfl rfl 0 rfl rfl ?_ | refine YU.storeF tabOk rfl rfl rfl 1 rfl rfl ?_ | refine YU.storeF tabOk rfl rfl rfl 2 rfl rfl ?_ | refine YU.storeF tabOk rfl rfl rfl 3 rfl rfl ?_ | refine YU.storeF tabOk rfl rfl rfl 4 rfl rfl ?_ | refine YU.storeF tabOk rfl rfl rfl 5 rfl rfl ?_ | refine YU.storeAL tabOk rfl rfl rfl 0 rfl rfl ?_ | refine YU.storeAL tabOk rfl rfl rfl 1 rfl rfl ?_ | refine YU.storeAL tabOk rfl rfl rfl 2 rfl rfl ?_ | refine YU.storeAL tabOk rfl rfl rfl 3 rfl rfl ?_ | refine YU.storeAL tabOk rfl rfl rfl 4 rfl rfl ?_)
    | (show Wr _ _ _; first | refine Wr.i64 (by omega) ?_ | refine Wr.u8 (by omega) ?_ | refine Wr.u16 (by omega) ?_ | refine Wr.u32 (by omega) ?_)
    | (show BIf _ _ _; first | refine BIf.pos rfl ?_ | refine BIf.neg rfl ?_)
    | (show Lp _ _ _ _ _; first | refine Lp.mk (α := Nat) [9] [0, 1, 2, 3] _ (fun i => [.int .i64 i]) (fun i => [tlbR p ls f m]) (fun i => i ≤ 8 ∧ ∀ (j : Nat) (h : j < ls.length), j < i → ¬ mtR v a pg ls[j] = true) (fun i => 8 - i) rfl rfl 0 ⟨by omega, fun j _ h => absurd h (by omega)⟩ rfl ⟨_, rfl⟩ (fun i hi => ?_))
    | (show Dr _ _ _ _ _ _ _ _ _; first | refine Dr.all (by kernel_rfl) ?_)
    | (show Vc.Fin _ _ _; first | (refine Fin.take 1 (And.intro ?_ rfl)))
    | refine ⟨i + 1, ⟨by omega, no_step hi.2 (fun hj => ?_)⟩, by omega, rfl, ⟨_, rfl⟩⟩
    | intro b)
  · have e : ls.findIdx? (mtR v a pg) = some i := List.findIdx?_eq_some_iff_getElem.2 ⟨by omega, by simp only [mtR, decide_eq_true_eq]; omega, fun j hj => hi.2 j (by omega) hj⟩
    rw [e]; rfl
  · simp only [mtR, decide_eq_true_eq] at b; omega
  · simp only [mtR, decide_eq_true_eq] at b; omega
  · simp only [mtR, decide_eq_true_eq] at b; omega
  · simp only [mtR, decide_eq_true_eq] at b; omega
  · have e : ls.findIdx? (mtR v a pg) = none := List.findIdx?_eq_none_iff.2 (fun x hx => by
      obtain ⟨j, hj, rfl⟩ := List.mem_iff_getElem.1 hx
      exact Bool.eq_false_iff.2 (hi.2 j hj (by omega)))
    rw [e]; rfl
def rfillL (at_ : Int) (l : Ln) (ls : List Ln) : List Ln := if atP at_ ∧ lnRight l then ((match ls.findIdx? (mtR l.v l.a l.p) with | some i => ls.set i ln0 | none => ls).set at_.toNat l) else ls
theorem fill_ref (at_ : Int) (l : Ln) : Con Try.prog 58 [.pointer (some ⟨p, 0, none⟩), .int .i64 at_, lnA l] w [tlbR p ls f m]
    (fun y L' => y = .int .i64 (fillE at_ l) ∧ L' = [tlbR p (rfillL at_ l ls) f m]) := by
  cases hix : ls.findIdx? (mtR l.v l.a l.p) with
  | none =>
    refine Con.of_vc tabOk 41 [.tmp 6] Try.func58 rfl Try.ntmps58 Try.results58 rfl hw ?_
    repeat' ((conv => whnf); first
      | (show _ ∧ _; first | (simp only [hix] at hx) | (obtain ⟨rfl, rfl⟩ := hx; refine ⟨rfl, ?_⟩) | (obtain ⟨b, rfl, rfl⟩ := hx; refine ⟨rfl, ?_⟩) | (obtain ⟨b, c, rfl, rfl⟩ := hx; refine ⟨rfl, ?_⟩))
      | (show gsplit _ _ _; first | refine gsplit.tt ?_ | refine gsplit.ff ?_ | refine gsplit.dpos (by omega) ?_ | refine gsplit.dneg (by omega) ?_ | refine gsplit.npos (by omega) ?_ | refine gsplit.nneg (by omega) ?_ | refine gsplit.dec (fun hc => ?_) (fun hc => ?_) | refine gsplit.ndec (fun hc => ?_) (fun hc => ?_) | refine gsplit.eq (fun hc => ?_) (fun hc => ?_) | refine gsplit.neq (fun hc => ?_) (fun hc => ?_))
      | (show YQ _ _ _ _ _ _; first | refine YQ.remN (by omega) ?_ | refine YQ.quoN (by omega) ?_ | refine YQ.len tabOk rfl ?_ | refine YQ.idx tabOk rfl (by omega) ?_ | refine YQ.idxA tabOk rfl (by omega) ?_ | refine YQ.sliceA tabOk rfl (by omega) (by omega) ?_ | refine YQ.sliceAll tabOk rfl ?_ | refine YQ.load1 tabOk rfl 0 rfl rfl ?_ | refine YQ.load1 tabOk rfl 1 rfl rfl ?_ | refine YQ.load1 tabOk rfl 2 rfl rfl ?_ | refine YQ.load1 tabOk rfl 3 rfl rfl ?_ | refine YQ.load1 tabOk rfl 4 rfl rfl ?_ | refine YQ.load1 tabOk rfl 5 rfl rfl ?_ | refine YQ.loadF tabOk rfl 0 rfl rfl ?_ | refine YQ.loadF tabOk rfl 1 rfl rfl ?_ | refine YQ.loadF tabOk rfl 2 rfl rfl ?_ | refine YQ.loadF tabOk rfl 3 rfl rfl ?_ | refine YQ.loadF tabOk rfl 4 rfl rfl ?_ | refine YQ.loadF tabOk rfl 5 rfl rfl ?_ | refine YQ.loadA tabOk rfl 0 rfl rfl rfl ?_ | refine YQ.loadA tabOk rfl 1 rfl rfl rfl ?_ | refine YQ.loadA tabOk rfl 2 rfl rfl rfl ?_ | refine YQ.loadA tabOk rfl 3 rfl rfl rfl ?_ | refine YQ.loadA tabOk rfl 4 rfl rfl rfl ?_ | refine YQ.build tabOk rfl rfl rfl ?_ | refine YQ.eqF tabOk rfl rfl rfl ?_ | refine YQ.neF tabOk rfl rfl rfl ?_)
      | (show YC _ _ _ _ _ _ _; first | refine YC.con [] [] rfl rfl (fun w _ _ => lright_ref _ w) (fun x L' hx => ?_) | refine YC.con [0] _ rfl rfl (fun w _ hw => at_ref p ls hlen f m w hw _ _ _) (fun x L' hx => ?_))
      | (show YU _ _ _ _ _ _ _ _; first | refine YU.storeRow tabOk rfl 0 at_.toNat rfl lnV_len (by omega) (by omega) l rfl rfl ?_ | refine YU.store1L tabOk rfl rfl 0 rfl rfl ?_ | refine YU.store1L tabOk rfl rfl 1 rfl rfl ?_ | refine YU.store1L tabOk rfl rfl 2 rfl rfl ?_ | refine YU.store1L tabOk rfl rfl 3 rfl rfl ?_ | refine YU.store1L tabOk rfl rfl 4 rfl rfl ?_ | refine YU.storeF tabOk rfl rfl rfl 0 rfl rfl ?_ | refine YU.storeF tabOk rfl rfl rfl 1 rfl rfl ?_ | refine YU.storeF tabOk rfl rfl rfl 2 rfl rfl ?_ | refine YU.storeF tabOk rfl rfl rfl 3 rfl rfl ?_ | refine YU.storeF tabOk rfl rfl rfl 4 rfl rfl ?_ | refine YU.storeF tabOk rfl rfl rfl 5 rfl rfl ?_ | refine YU.storeAL tabOk rfl rfl rfl 0 rfl rfl ?_ | refine YU.storeAL tabOk rfl rfl rfl 1 rfl rfl ?_ | refine YU.storeAL tabOk rfl rfl rfl 2 rfl rfl ?_ | refine YU.storeAL tabOk rfl rfl rfl 3 rfl rfl ?_ | refine YU.storeAL tabOk rfl rfl rfl 4 rfl rfl ?_)
      | (show Wr _ _ _; first | refine Wr.i64 (by omega) ?_ | refine Wr.u8 (by omega) ?_ | refine Wr.u16 (by omega) ?_ | refine Wr.u32 (by omega) ?_)
      | (show BIf _ _ _; first | refine BIf.pos rfl ?_ | refine BIf.neg rfl ?_)
      | (show Dr _ _ _ _ _ _ _ _ _; first | refine Dr.mk 6 (by kernel_rfl) ?_ | refine Dr.all (by kernel_rfl) ?_)
      | (show Vc.Fin _ _ _; first | refine Fin.take 1 (And.intro ?_ ?_))
      | intro b)
    all_goals first
      | (rw [show fillE at_ l = 1 from if_neg (by unfold atP; omega)]; rfl)
      | (rw [show fillE at_ l = 30 from (if_pos (by unfold atP; omega)).trans (if_neg hc)]; rfl)
      | (rw [show fillE at_ l = 0 from (if_pos (by unfold atP; omega)).trans (if_pos hc)]; rfl)
      | (rw [show rfillL at_ l ls = ls from if_neg (fun h => by have := h.1; unfold atP at this; omega)]; rfl)
      | (rw [show rfillL at_ l ls = ls from if_neg (fun h => hc h.2)]; rfl)
      | (rw [show rfillL at_ l ls = _ from if_pos ⟨by unfold atP; omega, hc⟩, hix]; rfl)
  | some i =>
    obtain ⟨hi, -⟩ := List.findIdx?_eq_some_iff_getElem.1 hix
    have hix' : ixI (ls.findIdx? (mtR l.v l.a l.p)) = (i : Int) := by rw [hix]; rfl
    refine Con.of_vc tabOk 41 [.tmp 6] Try.func58 rfl Try.ntmps58 Try.results58 rfl hw ?_
    repeat' ((conv => whnf); first
      | (show _ ∧ _; first | (simp only [hix'] at hx) | (obtain ⟨rfl, rfl⟩ := hx; refine ⟨rfl, ?_⟩) | (obtain ⟨b, rfl, rfl⟩ := hx; refine ⟨rfl, ?_⟩) | (obtain ⟨b, c, rfl, rfl⟩ := hx; refine ⟨rfl, ?_⟩))
      | (show gsplit _ _ _; first | refine gsplit.tt ?_ | refine gsplit.ff ?_ | refine gsplit.dpos (by omega) ?_ | refine gsplit.dneg (by omega) ?_ | refine gsplit.npos (by omega) ?_ | refine gsplit.nneg (by omega) ?_ | refine gsplit.dec (fun hc => ?_) (fun hc => ?_) | refine gsplit.ndec (fun hc => ?_) (fun hc => ?_) | refine gsplit.eq (fun hc => ?_) (fun hc => ?_) | refine gsplit.neq (fun hc => ?_) (fun hc => ?_))
      | (show YQ _ _ _ _ _ _; first | refine YQ.remN (by omega) ?_ | refine YQ.quoN (by omega) ?_ | refine YQ.len tabOk rfl ?_ | refine YQ.idx tabOk rfl (by omega) ?_ | refine YQ.idxA tabOk rfl (by omega) ?_ | refine YQ.sliceA tabOk rfl (by omega) (by omega) ?_ | refine YQ.sliceAll tabOk rfl ?_ | refine YQ.load1 tabOk rfl 0 rfl rfl ?_ | refine YQ.load1 tabOk rfl 1 rfl rfl ?_ | refine YQ.load1 tabOk rfl 2 rfl rfl ?_ | refine YQ.load1 tabOk rfl 3 rfl rfl ?_ | refine YQ.load1 tabOk rfl 4 rfl rfl ?_ | refine YQ.load1 tabOk rfl 5 rfl rfl ?_ | refine YQ.loadF tabOk rfl 0 rfl rfl ?_ | refine YQ.loadF tabOk rfl 1 rfl rfl ?_ | refine YQ.loadF tabOk rfl 2 rfl rfl ?_ | refine YQ.loadF tabOk rfl 3 rfl rfl ?_ | refine YQ.loadF tabOk rfl 4 rfl rfl ?_ | refine YQ.loadF tabOk rfl 5 rfl rfl ?_ | refine YQ.loadA tabOk rfl 0 rfl rfl rfl ?_ | refine YQ.loadA tabOk rfl 1 rfl rfl rfl ?_ | refine YQ.loadA tabOk rfl 2 rfl rfl rfl ?_ | refine YQ.loadA tabOk rfl 3 rfl rfl rfl ?_ | refine YQ.loadA tabOk rfl 4 rfl rfl rfl ?_ | refine YQ.build tabOk rfl rfl rfl ?_ | refine YQ.eqF tabOk rfl rfl rfl ?_ | refine YQ.neF tabOk rfl rfl rfl ?_)
      | (show YC _ _ _ _ _ _ _; first | refine YC.con [] [] rfl rfl (fun w _ _ => lright_ref _ w) (fun x L' hx => ?_) | refine YC.con [0] _ rfl rfl (fun w _ hw => at_ref p ls hlen f m w hw _ _ _) (fun x L' hx => ?_))
      | (show YU _ _ _ _ _ _ _ _; first | refine YU.storeRow tabOk rfl 0 i rfl lnV_len (by omega) (by omega) ln0 rfl rfl ?_ | refine YU.storeRow tabOk rfl 0 at_.toNat rfl lnV_len (by simp; omega) (by omega) l rfl rfl ?_ | refine YU.store1L tabOk rfl rfl 0 rfl rfl ?_ | refine YU.store1L tabOk rfl rfl 1 rfl rfl ?_ | refine YU.store1L tabOk rfl rfl 2 rfl rfl ?_ | refine YU.store1L tabOk rfl rfl 3 rfl rfl ?_ | refine YU.store1L tabOk rfl rfl 4 rfl rfl ?_ | refine YU.storeF tabOk rfl rfl rfl 0 rfl rfl ?_ | refine YU.storeF tabOk rfl rfl rfl 1 rfl rfl ?_ | refine YU.storeF tabOk rfl rfl rfl 2 rfl rfl ?_ | refine YU.storeF tabOk rfl rfl rfl 3 rfl rfl ?_ | refine YU.storeF tabOk rfl rfl rfl 4 rfl rfl ?_ | refine YU.storeF tabOk rfl rfl rfl 5 rfl rfl ?_ | refine YU.storeAL tabOk rfl rfl rfl 0 rfl rfl ?_ | refine YU.storeAL tabOk rfl rfl rfl 1 rfl rfl ?_ | refine YU.storeAL tabOk rfl rfl rfl 2 rfl rfl ?_ | refine YU.storeAL tabOk rfl rfl rfl 3 rfl rfl ?_ | refine YU.storeAL tabOk rfl rfl rfl 4 rfl rfl ?_)
      | (show Wr _ _ _; first | refine Wr.i64 (by omega) ?_ | refine Wr.u8 (by omega) ?_ | refine Wr.u16 (by omega) ?_ | refine Wr.u32 (by omega) ?_)
      | (show BIf _ _ _; first | refine BIf.pos rfl ?_ | refine BIf.neg rfl ?_)
      | (show Dr _ _ _ _ _ _ _ _ _; first | refine Dr.mk 6 (by kernel_rfl) ?_ | refine Dr.all (by kernel_rfl) ?_)
      | (show Vc.Fin _ _ _; first | refine Fin.take 1 (And.intro ?_ ?_))
      | intro b)
    all_goals first
      | (rw [show fillE at_ l = 1 from if_neg (by unfold atP; omega)]; rfl)
      | (rw [show fillE at_ l = 30 from (if_pos (by unfold atP; omega)).trans (if_neg hc)]; rfl)
      | (rw [show fillE at_ l = 0 from (if_pos (by unfold atP; omega)).trans (if_pos hc)]; rfl)
      | (rw [show rfillL at_ l ls = ls from if_neg (fun h => by have := h.1; unfold atP at this; omega)]; rfl)
      | (rw [show rfillL at_ l ls = ls from if_neg (fun h => hc h.2)]; rfl)
      | (rw [show rfillL at_ l ls = _ from if_pos ⟨by unfold atP; omega, hc⟩, hix]; rfl)
def rfnd (v a pg : Int) (ls : List Ln) : Option Ln := (ls.findIdx? (mtR v a pg)).map (fun i => ls.getD i ln0)
theorem find_ref (v a pg : Int) : Con Try.prog 57 [.pointer (some ⟨p, 0, none⟩), .int .i64 v, .int .i64 a, .int .i64 pg] w [tlbR p ls f m]
    (fun x L' => x = fndV (rfnd v a pg ls) ∧ L' = [tlbR p ls (fndF f (rfnd v a pg ls)) (fndM m (rfnd v a pg ls))]) := by
  cases hix : ls.findIdx? (mtR v a pg) with
  | none =>
    have hix' : ixI (ls.findIdx? (mtR v a pg)) = -1 := by rw [hix]; rfl
    have hr : rfnd v a pg ls = none := by rw [rfnd, hix]; rfl
    rw [hr]
    refine Con.of_vc tabOk 49 [.tmp 8, .tmp 9, .tmp 10] Try.func57 rfl Try.ntmps57 Try.results57 rfl hw ?_
    repeat' ((conv => whnf); first
      | (show _ ∧ _; first | (simp only [hix'] at hx) | (obtain ⟨rfl, rfl⟩ := hx; refine ⟨rfl, ?_⟩) | (obtain ⟨b, rfl, rfl⟩ := hx; refine ⟨rfl, ?_⟩) | (obtain ⟨b, c, rfl, rfl⟩ := hx; refine ⟨rfl, ?_⟩))
      | (show gsplit _ _ _; first | refine gsplit.tt ?_ | refine gsplit.ff ?_ | refine gsplit.dpos (by omega) ?_ | refine gsplit.dneg (by omega) ?_ | refine gsplit.npos (by omega) ?_ | refine gsplit.nneg (by omega) ?_ | refine gsplit.dec (fun hc => ?_) (fun hc => ?_) | refine gsplit.ndec (fun hc => ?_) (fun hc => ?_) | refine gsplit.eq (fun hc => ?_) (fun hc => ?_) | refine gsplit.neq (fun hc => ?_) (fun hc => ?_))
      | (show YQ _ _ _ _ _ _; first | refine YQ.loadT tabOk rfl 0 rfl lnV_len 1 (by omega) rfl ?_ | refine YQ.remN (by omega) ?_ | refine YQ.quoN (by omega) ?_ | refine YQ.len tabOk rfl ?_ | refine YQ.idx tabOk rfl (by omega) ?_ | refine YQ.idxA tabOk rfl (by omega) ?_ | refine YQ.sliceA tabOk rfl (by omega) (by omega) ?_ | refine YQ.sliceAll tabOk rfl ?_ | refine YQ.load1 tabOk rfl 0 rfl rfl ?_ | refine YQ.load1 tabOk rfl 1 rfl rfl ?_ | refine YQ.load1 tabOk rfl 2 rfl rfl ?_ | refine YQ.load1 tabOk rfl 3 rfl rfl ?_ | refine YQ.load1 tabOk rfl 4 rfl rfl ?_ | refine YQ.load1 tabOk rfl 5 rfl rfl ?_ | refine YQ.loadF tabOk rfl 0 rfl rfl ?_ | refine YQ.loadF tabOk rfl 1 rfl rfl ?_ | refine YQ.loadF tabOk rfl 2 rfl rfl ?_ | refine YQ.loadF tabOk rfl 3 rfl rfl ?_ | refine YQ.loadF tabOk rfl 4 rfl rfl ?_ | refine YQ.loadF tabOk rfl 5 rfl rfl ?_ | refine YQ.loadA tabOk rfl 0 rfl rfl rfl ?_ | refine YQ.loadA tabOk rfl 1 rfl rfl rfl ?_ | refine YQ.loadA tabOk rfl 2 rfl rfl rfl ?_ | refine YQ.loadA tabOk rfl 3 rfl rfl rfl ?_ | refine YQ.loadA tabOk rfl 4 rfl rfl rfl ?_ | refine YQ.build tabOk rfl rfl rfl ?_ | refine YQ.eqF tabOk rfl rfl rfl ?_ | refine YQ.neF tabOk rfl rfl rfl ?_)
      | (show YC _ _ _ _ _ _ _; first | refine YC.con [0] _ rfl rfl (fun w _ hw => at_ref p ls hlen f m w hw _ _ _) (fun x L' hx => ?_))
      | (show YU _ _ _ _ _ _ _ _; first | refine YU.storeT tabOk rfl rfl 0 rfl lnV_len 1 (by omega) (by simp) ?_ | refine YU.store1L tabOk rfl rfl 0 rfl rfl ?_ | refine YU.store1L tabOk rfl rfl 1 rfl rfl ?_ | refine YU.store1L tabOk rfl rfl 2 rfl rfl ?_ | refine YU.store1L tabOk rfl rfl 3 rfl rfl ?_ | refine YU.store1L tabOk rfl rfl 4 rfl rfl ?_ | refine YU.storeF tabOk rfl rfl rfl 0 rfl rfl ?_ | refine YU.storeF tabOk rfl rfl rfl 1 rfl rfl ?_ | refine YU.storeF tabOk rfl rfl rfl 2 rfl rfl ?_ | refine YU.storeF tabOk rfl rfl rfl 3 rfl rfl ?_ | refine YU.storeF tabOk rfl rfl rfl 4 rfl rfl ?_ | refine YU.storeF tabOk rfl rfl rfl 5 rfl rfl ?_ | refine YU.storeAL tabOk rfl rfl rfl 0 rfl rfl ?_ | refine YU.storeAL tabOk rfl rfl rfl 1 rfl rfl ?_ | refine YU.storeAL tabOk rfl rfl rfl 2 rfl rfl ?_ | refine YU.storeAL tabOk rfl rfl rfl 3 rfl rfl ?_ | refine YU.storeAL tabOk rfl rfl rfl 4 rfl rfl ?_)
      | (show Wr _ _ _; first | refine Wr.any ?_ | refine Wr.i64 (by omega) ?_ | refine Wr.u8 (by omega) ?_ | refine Wr.u16 (by omega) ?_ | refine Wr.u32 (by omega) ?_)
      | (show BIf _ _ _; first | refine BIf.pos rfl ?_ | refine BIf.neg rfl ?_)
      | (show Dr _ _ _ _ _ _ _ _ _; first | refine Dr.all (by kernel_rfl) ?_)
      | (show Vc.Fin _ _ _; first | refine Fin.take 1 (And.intro rfl rfl))
      | intro b)
  | some i =>
    obtain ⟨hi, -⟩ := List.findIdx?_eq_some_iff_getElem.1 hix
    have hix' : ixI (ls.findIdx? (mtR v a pg)) = (i : Int) := by rw [hix]; rfl
    have hr : rfnd v a pg ls = some ls[i] := by rw [rfnd, hix]; simp [List.getElem?_eq_getElem hi]
    rw [hr]
    refine Con.of_vc tabOk 49 [.tmp 8, .tmp 9, .tmp 10] Try.func57 rfl Try.ntmps57 Try.results57 rfl hw ?_
    repeat' ((conv => whnf); first
      | (show _ ∧ _; first | (simp only [hix'] at hx) | (obtain ⟨rfl, rfl⟩ := hx; refine ⟨rfl, ?_⟩) | (obtain ⟨b, rfl, rfl⟩ := hx; refine ⟨rfl, ?_⟩) | (obtain ⟨b, c, rfl, rfl⟩ := hx; refine ⟨rfl, ?_⟩))
      | (show gsplit _ _ _; first | refine gsplit.tt ?_ | refine gsplit.ff ?_ | refine gsplit.dpos (by omega) ?_ | refine gsplit.dneg (by omega) ?_ | refine gsplit.npos (by omega) ?_ | refine gsplit.nneg (by omega) ?_ | refine gsplit.dec (fun hc => ?_) (fun hc => ?_) | refine gsplit.ndec (fun hc => ?_) (fun hc => ?_) | refine gsplit.eq (fun hc => ?_) (fun hc => ?_) | refine gsplit.neq (fun hc => ?_) (fun hc => ?_))
      | (show YQ _ _ _ _ _ _; first | refine YQ.loadT tabOk rfl 0 rfl lnV_len 0 (by omega) rfl ?_ | refine YQ.loadR tabOk rfl 0 i rfl lnV_len (List.getElem?_eq_getElem hi) 3 (by omega) rfl ?_ | refine YQ.loadR tabOk rfl 0 i rfl lnV_len (List.getElem?_eq_getElem hi) 4 (by omega) rfl ?_ | refine YQ.remN (by omega) ?_ | refine YQ.quoN (by omega) ?_ | refine YQ.len tabOk rfl ?_ | refine YQ.idx tabOk rfl (by omega) ?_ | refine YQ.idxA tabOk rfl (by omega) ?_ | refine YQ.sliceA tabOk rfl (by omega) (by omega) ?_ | refine YQ.sliceAll tabOk rfl ?_ | refine YQ.load1 tabOk rfl 0 rfl rfl ?_ | refine YQ.load1 tabOk rfl 1 rfl rfl ?_ | refine YQ.load1 tabOk rfl 2 rfl rfl ?_ | refine YQ.load1 tabOk rfl 3 rfl rfl ?_ | refine YQ.load1 tabOk rfl 4 rfl rfl ?_ | refine YQ.load1 tabOk rfl 5 rfl rfl ?_ | refine YQ.loadF tabOk rfl 0 rfl rfl ?_ | refine YQ.loadF tabOk rfl 1 rfl rfl ?_ | refine YQ.loadF tabOk rfl 2 rfl rfl ?_ | refine YQ.loadF tabOk rfl 3 rfl rfl ?_ | refine YQ.loadF tabOk rfl 4 rfl rfl ?_ | refine YQ.loadF tabOk rfl 5 rfl rfl ?_ | refine YQ.loadA tabOk rfl 0 rfl rfl rfl ?_ | refine YQ.loadA tabOk rfl 1 rfl rfl rfl ?_ | refine YQ.loadA tabOk rfl 2 rfl rfl rfl ?_ | refine YQ.loadA tabOk rfl 3 rfl rfl rfl ?_ | refine YQ.loadA tabOk rfl 4 rfl rfl rfl ?_ | refine YQ.build tabOk rfl rfl rfl ?_ | refine YQ.eqF tabOk rfl rfl rfl ?_ | refine YQ.neF tabOk rfl rfl rfl ?_)
      | (show YC _ _ _ _ _ _ _; first | refine YC.con [0] _ rfl rfl (fun w _ hw => at_ref p ls hlen f m w hw _ _ _) (fun x L' hx => ?_))
      | (show YU _ _ _ _ _ _ _ _; first | refine YU.storeT tabOk rfl rfl 0 rfl lnV_len 0 (by omega) (by simp) ?_ | refine YU.store1L tabOk rfl rfl 0 rfl rfl ?_ | refine YU.store1L tabOk rfl rfl 1 rfl rfl ?_ | refine YU.store1L tabOk rfl rfl 2 rfl rfl ?_ | refine YU.store1L tabOk rfl rfl 3 rfl rfl ?_ | refine YU.store1L tabOk rfl rfl 4 rfl rfl ?_ | refine YU.storeF tabOk rfl rfl rfl 0 rfl rfl ?_ | refine YU.storeF tabOk rfl rfl rfl 1 rfl rfl ?_ | refine YU.storeF tabOk rfl rfl rfl 2 rfl rfl ?_ | refine YU.storeF tabOk rfl rfl rfl 3 rfl rfl ?_ | refine YU.storeF tabOk rfl rfl rfl 4 rfl rfl ?_ | refine YU.storeF tabOk rfl rfl rfl 5 rfl rfl ?_ | refine YU.storeAL tabOk rfl rfl rfl 0 rfl rfl ?_ | refine YU.storeAL tabOk rfl rfl rfl 1 rfl rfl ?_ | refine YU.storeAL tabOk rfl rfl rfl 2 rfl rfl ?_ | refine YU.storeAL tabOk rfl rfl rfl 3 rfl rfl ?_ | refine YU.storeAL tabOk rfl rfl rfl 4 rfl rfl ?_)
      | (show Wr _ _ _; first | refine Wr.any ?_ | refine Wr.i64 (by omega) ?_ | refine Wr.u8 (by omega) ?_ | refine Wr.u16 (by omega) ?_ | refine Wr.u32 (by omega) ?_)
      | (show BIf _ _ _; first | refine BIf.pos rfl ?_ | refine BIf.neg rfl ?_)
      | (show Dr _ _ _ _ _ _ _ _ _; first | refine Dr.all (by kernel_rfl) ?_)
      | (show Vc.Fin _ _ _; first | refine Fin.take 1 (And.intro rfl rfl))
      | intro b)
theorem evict_ref (at_ : Int) : Con Try.prog 28 [.pointer (some ⟨p, 0, none⟩), .int .i64 at_] w [tlbR p ls f m]
    (fun y L' => y = .int .i64 (evE at_) ∧ L' = [tlbR p (evL at_ ls) f m]) := by
  refine Con.of_vc tabOk 17 [.tmp 4] Try.func28 rfl Try.ntmps28 Try.results28 rfl hw ?_
  repeat' ((conv => whnf); first
    | (show _ ∧ _; first | (obtain ⟨rfl, rfl⟩ := hx; refine ⟨rfl, ?_⟩) | (obtain ⟨b, rfl, rfl⟩ := hx; refine ⟨rfl, ?_⟩) | (obtain ⟨b, c, rfl, rfl⟩ := hx; refine ⟨rfl, ?_⟩))
    | (show gsplit _ _ _; first | refine gsplit.tt ?_ | refine gsplit.ff ?_ | refine gsplit.dpos (by omega) ?_ | refine gsplit.dneg (by omega) ?_ | refine gsplit.npos (by omega) ?_ | refine gsplit.nneg (by omega) ?_ | refine gsplit.dec (fun hc => ?_) (fun hc => ?_) | refine gsplit.ndec (fun hc => ?_) (fun hc => ?_) | refine gsplit.eq (fun hc => ?_) (fun hc => ?_) | refine gsplit.neq (fun hc => ?_) (fun hc => ?_))
    | (show YQ _ _ _ _ _ _; first | refine YQ.remN (by omega) ?_ | refine YQ.quoN (by omega) ?_ | refine YQ.len tabOk rfl ?_ | refine YQ.idx tabOk rfl (by omega) ?_ | refine YQ.idxA tabOk rfl (by omega) ?_ | refine YQ.sliceA tabOk rfl (by omega) (by omega) ?_ | refine YQ.sliceAll tabOk rfl ?_ | refine YQ.load1 tabOk rfl 0 rfl rfl ?_ | refine YQ.load1 tabOk rfl 1 rfl rfl ?_ | refine YQ.load1 tabOk rfl 2 rfl rfl ?_ | refine YQ.load1 tabOk rfl 3 rfl rfl ?_ | refine YQ.load1 tabOk rfl 4 rfl rfl ?_ | refine YQ.load1 tabOk rfl 5 rfl rfl ?_ | refine YQ.loadF tabOk rfl 0 rfl rfl ?_ | refine YQ.loadF tabOk rfl 1 rfl rfl ?_ | refine YQ.loadF tabOk rfl 2 rfl rfl ?_ | refine YQ.loadF tabOk rfl 3 rfl rfl ?_ | refine YQ.loadF tabOk rfl 4 rfl rfl ?_ | refine YQ.loadF tabOk rfl 5 rfl rfl ?_ | refine YQ.loadA tabOk rfl 0 rfl rfl rfl ?_ | refine YQ.loadA tabOk rfl 1 rfl rfl rfl ?_ | refine YQ.loadA tabOk rfl 2 rfl rfl rfl ?_ | refine YQ.loadA tabOk rfl 3 rfl rfl rfl ?_ | refine YQ.loadA tabOk rfl 4 rfl rfl rfl ?_ | refine YQ.build tabOk rfl rfl rfl ?_ | refine YQ.eqF tabOk rfl rfl rfl ?_ | refine YQ.neF tabOk rfl rfl rfl ?_)
    | (show YU _ _ _ _ _ _ _ _; first | refine YU.storeRow tabOk rfl 0 at_.toNat rfl lnV_len (by omega) (by omega) ln0 rfl rfl ?_ | refine YU.store1L tabOk rfl rfl 0 rfl rfl ?_ | refine YU.store1L tabOk rfl rfl 1 rfl rfl ?_ | refine YU.store1L tabOk rfl rfl 2 rfl rfl ?_ | refine YU.store1L tabOk rfl rfl 3 rfl rfl ?_ | refine YU.store1L tabOk rfl rfl 4 rfl rfl ?_ | refine YU.storeF tabOk rfl rfl rfl 0 rfl rfl ?_ | refine YU.storeF tabOk rfl rfl rfl 1 rfl rfl ?_ | refine YU.storeF tabOk rfl rfl rfl 2 rfl rfl ?_ | refine YU.storeF tabOk rfl rfl rfl 3 rfl rfl ?_ | refine YU.storeF tabOk rfl rfl rfl 4 rfl rfl ?_ | refine YU.storeF tabOk rfl rfl rfl 5 rfl rfl ?_ | refine YU.storeAL tabOk rfl rfl rfl 0 rfl rfl ?_ | refine YU.storeAL tabOk rfl rfl rfl 1 rfl rfl ?_ | refine YU.storeAL tabOk rfl rfl rfl 2 rfl rfl ?_ | refine YU.storeAL tabOk rfl rfl rfl 3 rfl rfl ?_ | refine YU.storeAL tabOk rfl rfl rfl 4 rfl rfl ?_)
    | (show Wr _ _ _; first | refine Wr.i64 (by omega) ?_ | refine Wr.u8 (by omega) ?_ | refine Wr.u16 (by omega) ?_ | refine Wr.u32 (by omega) ?_)
    | (show BIf _ _ _; first | refine BIf.pos rfl ?_ | refine BIf.neg rfl ?_)
    | (show Dr _ _ _ _ _ _ _ _ _; first | refine Dr.all (by kernel_rfl) ?_)
    | (show Vc.Fin _ _ _; first | refine Fin.take 1 (And.intro ?_ ?_))
    | intro b)
  all_goals first
    | (rw [show evE at_ = 1 from if_neg (by unfold atP; omega)]; rfl)
    | (rw [show evE at_ = 0 from if_pos (by unfold atP; omega)]; rfl)
    | (rw [show evL at_ ls = ls from if_neg (by unfold atP; omega)]; rfl)
    | (rw [show evL at_ ls = ls.set at_.toNat ln0 from if_pos (by unfold atP; omega)]; rfl)
end
end Go.Proofs.Ytbohpchmofkllaa
